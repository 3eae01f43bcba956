-- made by a program of this session (wip/tools/myprint.py over the kit's print) out of the translation; Lean checks it
import Derived.Test.YtdehdhkhcilckaaProg
import Derived.Below
import Derived.Deep.Draws
import Derived.Deep.AppendLies
import Derived.Maps.AppendAt
import Derived.OwnWalk
import Derived.Laws.BytesArg
import Derived.Laws.MakeOwn
import Derived.Laws.OwnMore
import Derived.Deep.OwnRows
import Derived.Tactics
import Derived.Lib.ConvBytes
import Derived.Laws.Slices
import Derived.WalkKit
import Derived.KernelRfl
import Derived.RowKit3
import Derived.Deep.LoopGhost
import Derived.Deep.QuietTactic
import Derived.BigQuiet
import Derived.WideLaws
import Derived.Deep.DeepCutAuto
import Derived.Deep.CutBlock
import Derived.Deep.RegionHeld3
import Derived.Laws.Rows
import Derived.Lib.AppendStr
import Derived.ArgAppend
import Derived.Laws.IdiomCopy
import Derived.OrdersHeld
import Derived.Laws.BitsLemmas
import Derived.RowKit
import Derived.Deep.RegionWith
import Derived.WalkMore
import Derived.Test.YtdehdhkhcilckaaCells
import Derived.Test.YtdehdhkhcilckaaV
namespace Go.Proofs.Ytdehdhkhcilckaa.PM
open Go.RowKit Go.Proofs.YtdehdhkhcilckaaW.PrintWords Go.Proofs.YtdehdhkhcilckaaW.PrintLast Go.Proofs.YtdehdhkhcilckaaW.PrintMore
attribute [local go_sem] max2_int min2_int max_two min_two max_three min_three max_four min_four   -- for this text's walks alone
attribute [local go_sem high] Go.Proofs.Ytdehdhkhcilckaa.My.str_leq Go.Proofs.Ytdehdhkhcilckaa.My.str_gtr Go.Proofs.Ytdehdhkhcilckaa.My.str_geq
set_option linter.unusedVariables false
set_option linter.unusedSimpArgs false



def errW : Option Int → Value
  | none => .nilIface
  | some c => .iface 0 (.int .i64 c)
theorem errW_none : errW none = .nilIface := rfl
theorem errW_some (c : Int) : errW (some c) = .iface 0 (.int .i64 c) := rfl

theorem info5 : (Try.prog.info? 5).map (fun i => (i.zero, i.size, i.bytes)) = some (some (.int .u8 0), 1, 1) := by kernel_rfl
theorem info43 : (Try.prog.info? 43).map (fun i => (i.zero, i.size, i.bytes)) = some (some (.agg #[(.string ⟨#[]⟩), (.string ⟨#[]⟩), (.int .i64 0), (.int .i64 0), (.int .i64 0), (.int .i64 0)]), 6, 64) := by kernel_rfl
theorem info50 : (Try.prog.info? 50).map (fun i => (i.zero, i.size, i.bytes)) = some (some (.agg #[(.int .i64 0), (.bool false), (.string ⟨#[]⟩), (.string ⟨#[]⟩), (.int .i64 0), (.int .i64 0), (.int .i64 0), (.int .i64 0)]), 8, 80) := by kernel_rfl
theorem info53 : (Try.prog.info? 53).map (fun i => (i.zero, i.size, i.bytes)) = some (some (.agg #[(.bool false), (.string ⟨#[]⟩), (.string ⟨#[]⟩), (.int .i64 0)]), 4, 48) := by kernel_rfl
theorem info68 : (Try.prog.info? 68).map (fun i => (i.zero, i.size, i.bytes)) = some (some (.agg #[(.string ⟨#[]⟩), (.int .i64 0), (.int .i64 0), (.int .i64 0), (.string ⟨#[]⟩)]), 5, 56) := by kernel_rfl
-- the values' own types
/-! #### struct type 43 -/
structure S43 where
  f0 : ByteArray
  f1 : ByteArray
  f2 : Int
  f3 : Int
  f4 : Int
  f5 : Int
def z43 : S43 := ⟨(⟨#[]⟩ : ByteArray), (⟨#[]⟩ : ByteArray), (0 : Int), (0 : Int), (0 : Int), (0 : Int)⟩
def k43 : Kd S43 := Kd.iso (Kd.pair Kd.string (Kd.pair Kd.string (Kd.pair (Kd.int .i64) (Kd.pair (Kd.int .i64) (Kd.pair (Kd.int .i64) (Kd.int .i64)))))) (fun x : S43 => (x.f0, x.f1, x.f2, x.f3, x.f4, x.f5))
theorem k43_open {w : World} {x : S43} {cs : List Value} (h : k43.K w x cs) : cs = [.string x.f0, .string x.f1, .int .i64 x.f2, .int .i64 x.f3, .int .i64 x.f4, .int .i64 x.f5] := by
  obtain ⟨_, _, rfl, rfl, ⟨_, _, rfl, rfl, ⟨_, _, rfl, rfl, ⟨_, _, rfl, rfl, ⟨_, _, rfl, rfl, rfl⟩⟩⟩⟩⟩ := h
  exact rfl
theorem k43_openM {w : World} {base : Nat} {ok : Nat → Prop} {x : S43} {cs : List Value} (h : k43.M w base ok x cs) : cs = [.string x.f0, .string x.f1, .int .i64 x.f2, .int .i64 x.f3, .int .i64 x.f4, .int .i64 x.f5] := by
  obtain ⟨_, _, rfl, rfl, ⟨_, _, rfl, rfl, ⟨_, _, rfl, rfl, ⟨_, _, rfl, rfl, ⟨_, _, rfl, rfl, rfl⟩⟩⟩⟩⟩ := h
  exact rfl
theorem k43_mk (w : World) (x : S43)  : k43.K w x [.string x.f0, .string x.f1, .int .i64 x.f2, .int .i64 x.f3, .int .i64 x.f4, .int .i64 x.f5] := ⟨[.string x.f0], [.string x.f1, .int .i64 x.f2, .int .i64 x.f3, .int .i64 x.f4, .int .i64 x.f5], rfl, rfl, ⟨[.string x.f1], [.int .i64 x.f2, .int .i64 x.f3, .int .i64 x.f4, .int .i64 x.f5], rfl, rfl, ⟨[.int .i64 x.f2], [.int .i64 x.f3, .int .i64 x.f4, .int .i64 x.f5], rfl, rfl, ⟨[.int .i64 x.f3], [.int .i64 x.f4, .int .i64 x.f5], rfl, rfl, ⟨[.int .i64 x.f4], [.int .i64 x.f5], rfl, rfl, rfl⟩⟩⟩⟩⟩
theorem k43_mkM (w : World) (base : Nat) (ok : Nat → Prop) (x : S43)  : k43.M w base ok x [.string x.f0, .string x.f1, .int .i64 x.f2, .int .i64 x.f3, .int .i64 x.f4, .int .i64 x.f5] := ⟨[.string x.f0], [.string x.f1, .int .i64 x.f2, .int .i64 x.f3, .int .i64 x.f4, .int .i64 x.f5], rfl, rfl, ⟨[.string x.f1], [.int .i64 x.f2, .int .i64 x.f3, .int .i64 x.f4, .int .i64 x.f5], rfl, rfl, ⟨[.int .i64 x.f2], [.int .i64 x.f3, .int .i64 x.f4, .int .i64 x.f5], rfl, rfl, ⟨[.int .i64 x.f3], [.int .i64 x.f4, .int .i64 x.f5], rfl, rfl, ⟨[.int .i64 x.f4], [.int .i64 x.f5], rfl, rfl, rfl⟩⟩⟩⟩⟩
theorem k43_mkF (W : World) (ok : Nat → Prop) (x : S43) : Kd.FK k43 W ok x [.string x.f0, .string x.f1, .int .i64 x.f2, .int .i64 x.f3, .int .i64 x.f4, .int .i64 x.f5] := fun W2 _ => k43_mk W2 x
def rd_T43 (xs : List S43) (i : Int) : S43 := xs.getD i.toNat z43
abbrev cT43 (w : World) (p : Addr) (z : S43) (q : Prop) : Prop := w.cell? p = some (.string z.f0) ∧ w.cell? ⟨p.block, p.off + 1, none⟩ = some (.string z.f1) ∧ w.cell? ⟨p.block, p.off + 2, none⟩ = some (.int .i64 z.f2) ∧ w.cell? ⟨p.block, p.off + 3, none⟩ = some (.int .i64 z.f3) ∧ w.cell? ⟨p.block, p.off + 4, none⟩ = some (.int .i64 z.f4) ∧ w.cell? ⟨p.block, p.off + 5, none⟩ = some (.int .i64 z.f5) ∧ q
abbrev eT43 (w : World) (p : Addr) (z : S43) : Prop := w.cell? p = some (.string z.f0) ∧ w.cell? ⟨p.block, p.off + 1, none⟩ = some (.string z.f1) ∧ w.cell? ⟨p.block, p.off + 2, none⟩ = some (.int .i64 z.f2) ∧ w.cell? ⟨p.block, p.off + 3, none⟩ = some (.int .i64 z.f3) ∧ w.cell? ⟨p.block, p.off + 4, none⟩ = some (.int .i64 z.f4) ∧ w.cell? ⟨p.block, p.off + 5, none⟩ = some (.int .i64 z.f5)
theorem at_T43 {w : World} {A : Option Addr} {n : Nat} {xs : List S43} (h : Kd.C k43 w A n xs) (i : Int) (h0 : 0 ≤ i) (h1 : i < n) : ∃ ad , A = some ad ∧ w.cell? (ad.add (i.toNat * 6)) = some (.string (rd_T43 xs i).f0) ∧ w.cell? ⟨(ad.add (i.toNat * 6)).block, (ad.add (i.toNat * 6)).off + 1, none⟩ = some (.string (rd_T43 xs i).f1) ∧ w.cell? ⟨(ad.add (i.toNat * 6)).block, (ad.add (i.toNat * 6)).off + 2, none⟩ = some (.int .i64 (rd_T43 xs i).f2) ∧ w.cell? ⟨(ad.add (i.toNat * 6)).block, (ad.add (i.toNat * 6)).off + 3, none⟩ = some (.int .i64 (rd_T43 xs i).f3) ∧ w.cell? ⟨(ad.add (i.toNat * 6)).block, (ad.add (i.toNat * 6)).off + 4, none⟩ = some (.int .i64 (rd_T43 xs i).f4) ∧ w.cell? ⟨(ad.add (i.toNat * 6)).block, (ad.add (i.toNat * 6)).off + 5, none⟩ = some (.int .i64 (rd_T43 xs i).f5) := by
  obtain ⟨ad, c, e, _, hK, hc0⟩ := Kd.C_get h z43 i h0 h1
  have hc : ∀ j u, c[j]? = some u → w.cell? (ad.add (i.toNat * 6 + j)) = some u := hc0
  obtain rfl := k43_open hK
  exact ⟨ad, e, hc 0 _ rfl, by rw [← add_field _ _ 1 (by omega)]; exact hc 1 _ rfl, by rw [← add_field _ _ 2 (by omega)]; exact hc 2 _ rfl, by rw [← add_field _ _ 3 (by omega)]; exact hc 3 _ rfl, by rw [← add_field _ _ 4 (by omega)]; exact hc 4 _ rfl, by rw [← add_field _ _ 5 (by omega)]; exact hc 5 _ rfl⟩

/-! #### struct type 68 -/
structure S68 where
  f0 : ByteArray
  f1 : Int
  f2 : Int
  f3 : Int
  f4 : ByteArray
def z68 : S68 := ⟨(⟨#[]⟩ : ByteArray), (0 : Int), (0 : Int), (0 : Int), (⟨#[]⟩ : ByteArray)⟩
def k68 : Kd S68 := Kd.iso (Kd.pair Kd.string (Kd.pair (Kd.int .i64) (Kd.pair (Kd.int .i64) (Kd.pair (Kd.int .i64) Kd.string)))) (fun x : S68 => (x.f0, x.f1, x.f2, x.f3, x.f4))
theorem k68_open {w : World} {x : S68} {cs : List Value} (h : k68.K w x cs) : cs = [.string x.f0, .int .i64 x.f1, .int .i64 x.f2, .int .i64 x.f3, .string x.f4] := by
  obtain ⟨_, _, rfl, rfl, ⟨_, _, rfl, rfl, ⟨_, _, rfl, rfl, ⟨_, _, rfl, rfl, rfl⟩⟩⟩⟩ := h
  exact rfl
theorem k68_openM {w : World} {base : Nat} {ok : Nat → Prop} {x : S68} {cs : List Value} (h : k68.M w base ok x cs) : cs = [.string x.f0, .int .i64 x.f1, .int .i64 x.f2, .int .i64 x.f3, .string x.f4] := by
  obtain ⟨_, _, rfl, rfl, ⟨_, _, rfl, rfl, ⟨_, _, rfl, rfl, ⟨_, _, rfl, rfl, rfl⟩⟩⟩⟩ := h
  exact rfl
theorem k68_mk (w : World) (x : S68)  : k68.K w x [.string x.f0, .int .i64 x.f1, .int .i64 x.f2, .int .i64 x.f3, .string x.f4] := ⟨[.string x.f0], [.int .i64 x.f1, .int .i64 x.f2, .int .i64 x.f3, .string x.f4], rfl, rfl, ⟨[.int .i64 x.f1], [.int .i64 x.f2, .int .i64 x.f3, .string x.f4], rfl, rfl, ⟨[.int .i64 x.f2], [.int .i64 x.f3, .string x.f4], rfl, rfl, ⟨[.int .i64 x.f3], [.string x.f4], rfl, rfl, rfl⟩⟩⟩⟩
theorem k68_mkM (w : World) (base : Nat) (ok : Nat → Prop) (x : S68)  : k68.M w base ok x [.string x.f0, .int .i64 x.f1, .int .i64 x.f2, .int .i64 x.f3, .string x.f4] := ⟨[.string x.f0], [.int .i64 x.f1, .int .i64 x.f2, .int .i64 x.f3, .string x.f4], rfl, rfl, ⟨[.int .i64 x.f1], [.int .i64 x.f2, .int .i64 x.f3, .string x.f4], rfl, rfl, ⟨[.int .i64 x.f2], [.int .i64 x.f3, .string x.f4], rfl, rfl, ⟨[.int .i64 x.f3], [.string x.f4], rfl, rfl, rfl⟩⟩⟩⟩
theorem k68_mkF (W : World) (ok : Nat → Prop) (x : S68) : Kd.FK k68 W ok x [.string x.f0, .int .i64 x.f1, .int .i64 x.f2, .int .i64 x.f3, .string x.f4] := fun W2 _ => k68_mk W2 x
def rd_T68 (xs : List S68) (i : Int) : S68 := xs.getD i.toNat z68
abbrev cT68 (w : World) (p : Addr) (z : S68) (q : Prop) : Prop := w.cell? p = some (.string z.f0) ∧ w.cell? ⟨p.block, p.off + 1, none⟩ = some (.int .i64 z.f1) ∧ w.cell? ⟨p.block, p.off + 2, none⟩ = some (.int .i64 z.f2) ∧ w.cell? ⟨p.block, p.off + 3, none⟩ = some (.int .i64 z.f3) ∧ w.cell? ⟨p.block, p.off + 4, none⟩ = some (.string z.f4) ∧ q
abbrev eT68 (w : World) (p : Addr) (z : S68) : Prop := w.cell? p = some (.string z.f0) ∧ w.cell? ⟨p.block, p.off + 1, none⟩ = some (.int .i64 z.f1) ∧ w.cell? ⟨p.block, p.off + 2, none⟩ = some (.int .i64 z.f2) ∧ w.cell? ⟨p.block, p.off + 3, none⟩ = some (.int .i64 z.f3) ∧ w.cell? ⟨p.block, p.off + 4, none⟩ = some (.string z.f4)
theorem at_T68 {w : World} {A : Option Addr} {n : Nat} {xs : List S68} (h : Kd.C k68 w A n xs) (i : Int) (h0 : 0 ≤ i) (h1 : i < n) : ∃ ad , A = some ad ∧ w.cell? (ad.add (i.toNat * 5)) = some (.string (rd_T68 xs i).f0) ∧ w.cell? ⟨(ad.add (i.toNat * 5)).block, (ad.add (i.toNat * 5)).off + 1, none⟩ = some (.int .i64 (rd_T68 xs i).f1) ∧ w.cell? ⟨(ad.add (i.toNat * 5)).block, (ad.add (i.toNat * 5)).off + 2, none⟩ = some (.int .i64 (rd_T68 xs i).f2) ∧ w.cell? ⟨(ad.add (i.toNat * 5)).block, (ad.add (i.toNat * 5)).off + 3, none⟩ = some (.int .i64 (rd_T68 xs i).f3) ∧ w.cell? ⟨(ad.add (i.toNat * 5)).block, (ad.add (i.toNat * 5)).off + 4, none⟩ = some (.string (rd_T68 xs i).f4) := by
  obtain ⟨ad, c, e, _, hK, hc0⟩ := Kd.C_get h z68 i h0 h1
  have hc : ∀ j u, c[j]? = some u → w.cell? (ad.add (i.toNat * 5 + j)) = some u := hc0
  obtain rfl := k68_open hK
  exact ⟨ad, e, hc 0 _ rfl, by rw [← add_field _ _ 1 (by omega)]; exact hc 1 _ rfl, by rw [← add_field _ _ 2 (by omega)]; exact hc 2 _ rfl, by rw [← add_field _ _ 3 (by omega)]; exact hc 3 _ rfl, by rw [← add_field _ _ 4 (by omega)]; exact hc 4 _ rfl⟩

/-! #### struct type 53 -/
structure S53 where
  f0 : Bool
  f1 : ByteArray
  f2 : ByteArray
  f3 : Int
def z53 : S53 := ⟨false, (⟨#[]⟩ : ByteArray), (⟨#[]⟩ : ByteArray), (0 : Int)⟩
def k53 : Kd S53 := Kd.iso (Kd.pair Kd.bool (Kd.pair Kd.string (Kd.pair Kd.string (Kd.int .i64)))) (fun x : S53 => (x.f0, x.f1, x.f2, x.f3))
theorem k53_open {w : World} {x : S53} {cs : List Value} (h : k53.K w x cs) : cs = [.bool x.f0, .string x.f1, .string x.f2, .int .i64 x.f3] := by
  obtain ⟨_, _, rfl, rfl, ⟨_, _, rfl, rfl, ⟨_, _, rfl, rfl, rfl⟩⟩⟩ := h
  exact rfl
theorem k53_openM {w : World} {base : Nat} {ok : Nat → Prop} {x : S53} {cs : List Value} (h : k53.M w base ok x cs) : cs = [.bool x.f0, .string x.f1, .string x.f2, .int .i64 x.f3] := by
  obtain ⟨_, _, rfl, rfl, ⟨_, _, rfl, rfl, ⟨_, _, rfl, rfl, rfl⟩⟩⟩ := h
  exact rfl
theorem k53_mk (w : World) (x : S53)  : k53.K w x [.bool x.f0, .string x.f1, .string x.f2, .int .i64 x.f3] := ⟨[.bool x.f0], [.string x.f1, .string x.f2, .int .i64 x.f3], rfl, rfl, ⟨[.string x.f1], [.string x.f2, .int .i64 x.f3], rfl, rfl, ⟨[.string x.f2], [.int .i64 x.f3], rfl, rfl, rfl⟩⟩⟩
theorem k53_mkM (w : World) (base : Nat) (ok : Nat → Prop) (x : S53)  : k53.M w base ok x [.bool x.f0, .string x.f1, .string x.f2, .int .i64 x.f3] := ⟨[.bool x.f0], [.string x.f1, .string x.f2, .int .i64 x.f3], rfl, rfl, ⟨[.string x.f1], [.string x.f2, .int .i64 x.f3], rfl, rfl, ⟨[.string x.f2], [.int .i64 x.f3], rfl, rfl, rfl⟩⟩⟩
theorem k53_mkF (W : World) (ok : Nat → Prop) (x : S53) : Kd.FK k53 W ok x [.bool x.f0, .string x.f1, .string x.f2, .int .i64 x.f3] := fun W2 _ => k53_mk W2 x
def rd_T53 (xs : List S53) (i : Int) : S53 := xs.getD i.toNat z53
abbrev cT53 (w : World) (p : Addr) (z : S53) (q : Prop) : Prop := w.cell? p = some (.bool z.f0) ∧ w.cell? ⟨p.block, p.off + 1, none⟩ = some (.string z.f1) ∧ w.cell? ⟨p.block, p.off + 2, none⟩ = some (.string z.f2) ∧ w.cell? ⟨p.block, p.off + 3, none⟩ = some (.int .i64 z.f3) ∧ q
abbrev eT53 (w : World) (p : Addr) (z : S53) : Prop := w.cell? p = some (.bool z.f0) ∧ w.cell? ⟨p.block, p.off + 1, none⟩ = some (.string z.f1) ∧ w.cell? ⟨p.block, p.off + 2, none⟩ = some (.string z.f2) ∧ w.cell? ⟨p.block, p.off + 3, none⟩ = some (.int .i64 z.f3)
theorem at_T53 {w : World} {A : Option Addr} {n : Nat} {xs : List S53} (h : Kd.C k53 w A n xs) (i : Int) (h0 : 0 ≤ i) (h1 : i < n) : ∃ ad , A = some ad ∧ w.cell? (ad.add (i.toNat * 4)) = some (.bool (rd_T53 xs i).f0) ∧ w.cell? ⟨(ad.add (i.toNat * 4)).block, (ad.add (i.toNat * 4)).off + 1, none⟩ = some (.string (rd_T53 xs i).f1) ∧ w.cell? ⟨(ad.add (i.toNat * 4)).block, (ad.add (i.toNat * 4)).off + 2, none⟩ = some (.string (rd_T53 xs i).f2) ∧ w.cell? ⟨(ad.add (i.toNat * 4)).block, (ad.add (i.toNat * 4)).off + 3, none⟩ = some (.int .i64 (rd_T53 xs i).f3) := by
  obtain ⟨ad, c, e, _, hK, hc0⟩ := Kd.C_get h z53 i h0 h1
  have hc : ∀ j u, c[j]? = some u → w.cell? (ad.add (i.toNat * 4 + j)) = some u := hc0
  obtain rfl := k53_open hK
  exact ⟨ad, e, hc 0 _ rfl, by rw [← add_field _ _ 1 (by omega)]; exact hc 1 _ rfl, by rw [← add_field _ _ 2 (by omega)]; exact hc 2 _ rfl, by rw [← add_field _ _ 3 (by omega)]; exact hc 3 _ rfl⟩

/-! #### struct type 50 -/
structure S50 where
  f0 : Int
  f1 : Bool
  f2 : S43
def z50 : S50 := ⟨(0 : Int), false, z43⟩
def k50 : Kd S50 := Kd.iso (Kd.pair (Kd.int .i64) (Kd.pair Kd.bool k43)) (fun x : S50 => (x.f0, x.f1, x.f2))
theorem k50_open {w : World} {x : S50} {cs : List Value} (h : k50.K w x cs) : cs = [.int .i64 x.f0, .bool x.f1, .string x.f2.f0, .string x.f2.f1, .int .i64 x.f2.f2, .int .i64 x.f2.f3, .int .i64 x.f2.f4, .int .i64 x.f2.f5] := by
  obtain ⟨_, _, rfl, rfl, ⟨_, _, rfl, rfl, s2⟩⟩ := h
  obtain rfl := k43_open s2
  exact rfl
theorem k50_openM {w : World} {base : Nat} {ok : Nat → Prop} {x : S50} {cs : List Value} (h : k50.M w base ok x cs) : cs = [.int .i64 x.f0, .bool x.f1, .string x.f2.f0, .string x.f2.f1, .int .i64 x.f2.f2, .int .i64 x.f2.f3, .int .i64 x.f2.f4, .int .i64 x.f2.f5] := by
  obtain ⟨_, _, rfl, rfl, ⟨_, _, rfl, rfl, s2⟩⟩ := h
  obtain rfl := k43_openM s2
  exact rfl
theorem k50_mk (w : World) (x : S50)  : k50.K w x [.int .i64 x.f0, .bool x.f1, .string x.f2.f0, .string x.f2.f1, .int .i64 x.f2.f2, .int .i64 x.f2.f3, .int .i64 x.f2.f4, .int .i64 x.f2.f5] := ⟨[.int .i64 x.f0], [.bool x.f1, .string x.f2.f0, .string x.f2.f1, .int .i64 x.f2.f2, .int .i64 x.f2.f3, .int .i64 x.f2.f4, .int .i64 x.f2.f5], rfl, rfl, ⟨[.bool x.f1], [.string x.f2.f0, .string x.f2.f1, .int .i64 x.f2.f2, .int .i64 x.f2.f3, .int .i64 x.f2.f4, .int .i64 x.f2.f5], rfl, rfl, (k43_mk w x.f2 )⟩⟩
theorem k50_mkM (w : World) (base : Nat) (ok : Nat → Prop) (x : S50)  : k50.M w base ok x [.int .i64 x.f0, .bool x.f1, .string x.f2.f0, .string x.f2.f1, .int .i64 x.f2.f2, .int .i64 x.f2.f3, .int .i64 x.f2.f4, .int .i64 x.f2.f5] := ⟨[.int .i64 x.f0], [.bool x.f1, .string x.f2.f0, .string x.f2.f1, .int .i64 x.f2.f2, .int .i64 x.f2.f3, .int .i64 x.f2.f4, .int .i64 x.f2.f5], rfl, rfl, ⟨[.bool x.f1], [.string x.f2.f0, .string x.f2.f1, .int .i64 x.f2.f2, .int .i64 x.f2.f3, .int .i64 x.f2.f4, .int .i64 x.f2.f5], rfl, rfl, (k43_mkM w base ok x.f2 )⟩⟩
theorem k50_mkF (W : World) (ok : Nat → Prop) (x : S50) : Kd.FK k50 W ok x [.int .i64 x.f0, .bool x.f1, .string x.f2.f0, .string x.f2.f1, .int .i64 x.f2.f2, .int .i64 x.f2.f3, .int .i64 x.f2.f4, .int .i64 x.f2.f5] := fun W2 _ => k50_mk W2 x
def rd_T50 (xs : List S50) (i : Int) : S50 := xs.getD i.toNat z50
abbrev cT50 (w : World) (p : Addr) (z : S50) (q : Prop) : Prop := w.cell? p = some (.int .i64 z.f0) ∧ w.cell? ⟨p.block, p.off + 1, none⟩ = some (.bool z.f1) ∧ w.cell? ⟨p.block, p.off + 2, none⟩ = some (.string z.f2.f0) ∧ w.cell? ⟨p.block, p.off + 3, none⟩ = some (.string z.f2.f1) ∧ w.cell? ⟨p.block, p.off + 4, none⟩ = some (.int .i64 z.f2.f2) ∧ w.cell? ⟨p.block, p.off + 5, none⟩ = some (.int .i64 z.f2.f3) ∧ w.cell? ⟨p.block, p.off + 6, none⟩ = some (.int .i64 z.f2.f4) ∧ w.cell? ⟨p.block, p.off + 7, none⟩ = some (.int .i64 z.f2.f5) ∧ q
abbrev eT50 (w : World) (p : Addr) (z : S50) : Prop := w.cell? p = some (.int .i64 z.f0) ∧ w.cell? ⟨p.block, p.off + 1, none⟩ = some (.bool z.f1) ∧ w.cell? ⟨p.block, p.off + 2, none⟩ = some (.string z.f2.f0) ∧ w.cell? ⟨p.block, p.off + 3, none⟩ = some (.string z.f2.f1) ∧ w.cell? ⟨p.block, p.off + 4, none⟩ = some (.int .i64 z.f2.f2) ∧ w.cell? ⟨p.block, p.off + 5, none⟩ = some (.int .i64 z.f2.f3) ∧ w.cell? ⟨p.block, p.off + 6, none⟩ = some (.int .i64 z.f2.f4) ∧ w.cell? ⟨p.block, p.off + 7, none⟩ = some (.int .i64 z.f2.f5)
theorem at_T50 {w : World} {A : Option Addr} {n : Nat} {xs : List S50} (h : Kd.C k50 w A n xs) (i : Int) (h0 : 0 ≤ i) (h1 : i < n) : ∃ ad , A = some ad ∧ w.cell? (ad.add (i.toNat * 8)) = some (.int .i64 (rd_T50 xs i).f0) ∧ w.cell? ⟨(ad.add (i.toNat * 8)).block, (ad.add (i.toNat * 8)).off + 1, none⟩ = some (.bool (rd_T50 xs i).f1) ∧ w.cell? ⟨(ad.add (i.toNat * 8)).block, (ad.add (i.toNat * 8)).off + 2, none⟩ = some (.string (rd_T50 xs i).f2.f0) ∧ w.cell? ⟨(ad.add (i.toNat * 8)).block, (ad.add (i.toNat * 8)).off + 3, none⟩ = some (.string (rd_T50 xs i).f2.f1) ∧ w.cell? ⟨(ad.add (i.toNat * 8)).block, (ad.add (i.toNat * 8)).off + 4, none⟩ = some (.int .i64 (rd_T50 xs i).f2.f2) ∧ w.cell? ⟨(ad.add (i.toNat * 8)).block, (ad.add (i.toNat * 8)).off + 5, none⟩ = some (.int .i64 (rd_T50 xs i).f2.f3) ∧ w.cell? ⟨(ad.add (i.toNat * 8)).block, (ad.add (i.toNat * 8)).off + 6, none⟩ = some (.int .i64 (rd_T50 xs i).f2.f4) ∧ w.cell? ⟨(ad.add (i.toNat * 8)).block, (ad.add (i.toNat * 8)).off + 7, none⟩ = some (.int .i64 (rd_T50 xs i).f2.f5) := by
  obtain ⟨ad, c, e, _, hK, hc0⟩ := Kd.C_get h z50 i h0 h1
  have hc : ∀ j u, c[j]? = some u → w.cell? (ad.add (i.toNat * 8 + j)) = some u := hc0
  obtain rfl := k50_open hK
  exact ⟨ad, e, hc 0 _ rfl, by rw [← add_field _ _ 1 (by omega)]; exact hc 1 _ rfl, by rw [← add_field _ _ 2 (by omega)]; exact hc 2 _ rfl, by rw [← add_field _ _ 3 (by omega)]; exact hc 3 _ rfl, by rw [← add_field _ _ 4 (by omega)]; exact hc 4 _ rfl, by rw [← add_field _ _ 5 (by omega)]; exact hc 5 _ rfl, by rw [← add_field _ _ 6 (by omega)]; exact hc 6 _ rfl, by rw [← add_field _ _ 7 (by omega)]; exact hc 7 _ rfl⟩

def rd_L8 (xs : List (List S43)) (i : Int) : (List S43) := xs.getD i.toNat ([] : List S43)
theorem at_L8 {w : World} {A : Option Addr} {n : Nat} {xs : List (List S43)} (h : Kd.C (Kd.slice 43 k43) w A n xs) (i : Int) (h0 : 0 ≤ i) (h1 : i < n) : ∃ ad A0 c0, A = some ad ∧ w.cell? (ad.add i.toNat) = some (.slice A0 (rd_L8 xs i).length c0) ∧ (rd_L8 xs i).length ≤ c0 ∧ k43.C w A0 (rd_L8 xs i).length (rd_L8 xs i) := by
  obtain ⟨ad, c, e, _, hK, hc0⟩ := Kd.C_get h ([] : List S43) i h0 h1
  have hc : ∀ j u, c[j]? = some u → w.cell? (ad.add (i.toNat * 1 + j)) = some u := hc0
  obtain ⟨A0, c0, rfl, l0, g0⟩ := hK
  exact ⟨ad, A0, c0, e, by have hq := hc 0 _ rfl; rwa [Nat.mul_one, Nat.add_zero] at hq, l0, g0⟩

def rd_L9 (xs : List (List S50)) (i : Int) : (List S50) := xs.getD i.toNat ([] : List S50)
theorem at_L9 {w : World} {A : Option Addr} {n : Nat} {xs : List (List S50)} (h : Kd.C (Kd.slice 50 k50) w A n xs) (i : Int) (h0 : 0 ≤ i) (h1 : i < n) : ∃ ad A0 c0, A = some ad ∧ w.cell? (ad.add i.toNat) = some (.slice A0 (rd_L9 xs i).length c0) ∧ (rd_L9 xs i).length ≤ c0 ∧ k50.C w A0 (rd_L9 xs i).length (rd_L9 xs i) := by
  obtain ⟨ad, c, e, _, hK, hc0⟩ := Kd.C_get h ([] : List S50) i h0 h1
  have hc : ∀ j u, c[j]? = some u → w.cell? (ad.add (i.toNat * 1 + j)) = some u := hc0
  obtain ⟨A0, c0, rfl, l0, g0⟩ := hK
  exact ⟨ad, A0, c0, e, by have hq := hc 0 _ rfl; rwa [Nat.mul_one, Nat.add_zero] at hq, l0, g0⟩

/-! #### struct type 24 -/
structure S24 where
  f0 : Int
  f1 : ByteArray
  f2 : Int
  f3 : ByteArray
  f4 : ByteArray
  f5 : Int
  f6 : Int
  f7 : Int
  f8 : Int
  f9 : Int
def z24 : S24 := ⟨(0 : Int), (⟨#[]⟩ : ByteArray), (0 : Int), (⟨#[]⟩ : ByteArray), (⟨#[]⟩ : ByteArray), (0 : Int), (0 : Int), (0 : Int), (0 : Int), (0 : Int)⟩
def k24 : Kd S24 := Kd.iso (Kd.pair (Kd.int .i64) (Kd.pair Kd.string (Kd.pair (Kd.int .i64) (Kd.pair Kd.string (Kd.pair Kd.string (Kd.pair (Kd.int .i64) (Kd.pair (Kd.int .i64) (Kd.pair (Kd.int .i64) (Kd.pair (Kd.int .i64) (Kd.int .i64)))))))))) (fun x : S24 => (x.f0, x.f1, x.f2, x.f3, x.f4, x.f5, x.f6, x.f7, x.f8, x.f9))
theorem k24_open {w : World} {x : S24} {cs : List Value} (h : k24.K w x cs) : cs = [.int .i64 x.f0, .string x.f1, .int .i64 x.f2, .string x.f3, .string x.f4, .int .i64 x.f5, .int .i64 x.f6, .int .i64 x.f7, .int .i64 x.f8, .int .i64 x.f9] := by
  obtain ⟨_, _, rfl, rfl, ⟨_, _, rfl, rfl, ⟨_, _, rfl, rfl, ⟨_, _, rfl, rfl, ⟨_, _, rfl, rfl, ⟨_, _, rfl, rfl, ⟨_, _, rfl, rfl, ⟨_, _, rfl, rfl, ⟨_, _, rfl, rfl, rfl⟩⟩⟩⟩⟩⟩⟩⟩⟩ := h
  exact rfl
theorem k24_openM {w : World} {base : Nat} {ok : Nat → Prop} {x : S24} {cs : List Value} (h : k24.M w base ok x cs) : cs = [.int .i64 x.f0, .string x.f1, .int .i64 x.f2, .string x.f3, .string x.f4, .int .i64 x.f5, .int .i64 x.f6, .int .i64 x.f7, .int .i64 x.f8, .int .i64 x.f9] := by
  obtain ⟨_, _, rfl, rfl, ⟨_, _, rfl, rfl, ⟨_, _, rfl, rfl, ⟨_, _, rfl, rfl, ⟨_, _, rfl, rfl, ⟨_, _, rfl, rfl, ⟨_, _, rfl, rfl, ⟨_, _, rfl, rfl, ⟨_, _, rfl, rfl, rfl⟩⟩⟩⟩⟩⟩⟩⟩⟩ := h
  exact rfl
theorem k24_mk (w : World) (x : S24)  : k24.K w x [.int .i64 x.f0, .string x.f1, .int .i64 x.f2, .string x.f3, .string x.f4, .int .i64 x.f5, .int .i64 x.f6, .int .i64 x.f7, .int .i64 x.f8, .int .i64 x.f9] := ⟨[.int .i64 x.f0], [.string x.f1, .int .i64 x.f2, .string x.f3, .string x.f4, .int .i64 x.f5, .int .i64 x.f6, .int .i64 x.f7, .int .i64 x.f8, .int .i64 x.f9], rfl, rfl, ⟨[.string x.f1], [.int .i64 x.f2, .string x.f3, .string x.f4, .int .i64 x.f5, .int .i64 x.f6, .int .i64 x.f7, .int .i64 x.f8, .int .i64 x.f9], rfl, rfl, ⟨[.int .i64 x.f2], [.string x.f3, .string x.f4, .int .i64 x.f5, .int .i64 x.f6, .int .i64 x.f7, .int .i64 x.f8, .int .i64 x.f9], rfl, rfl, ⟨[.string x.f3], [.string x.f4, .int .i64 x.f5, .int .i64 x.f6, .int .i64 x.f7, .int .i64 x.f8, .int .i64 x.f9], rfl, rfl, ⟨[.string x.f4], [.int .i64 x.f5, .int .i64 x.f6, .int .i64 x.f7, .int .i64 x.f8, .int .i64 x.f9], rfl, rfl, ⟨[.int .i64 x.f5], [.int .i64 x.f6, .int .i64 x.f7, .int .i64 x.f8, .int .i64 x.f9], rfl, rfl, ⟨[.int .i64 x.f6], [.int .i64 x.f7, .int .i64 x.f8, .int .i64 x.f9], rfl, rfl, ⟨[.int .i64 x.f7], [.int .i64 x.f8, .int .i64 x.f9], rfl, rfl, ⟨[.int .i64 x.f8], [.int .i64 x.f9], rfl, rfl, rfl⟩⟩⟩⟩⟩⟩⟩⟩⟩
theorem k24_mkM (w : World) (base : Nat) (ok : Nat → Prop) (x : S24)  : k24.M w base ok x [.int .i64 x.f0, .string x.f1, .int .i64 x.f2, .string x.f3, .string x.f4, .int .i64 x.f5, .int .i64 x.f6, .int .i64 x.f7, .int .i64 x.f8, .int .i64 x.f9] := ⟨[.int .i64 x.f0], [.string x.f1, .int .i64 x.f2, .string x.f3, .string x.f4, .int .i64 x.f5, .int .i64 x.f6, .int .i64 x.f7, .int .i64 x.f8, .int .i64 x.f9], rfl, rfl, ⟨[.string x.f1], [.int .i64 x.f2, .string x.f3, .string x.f4, .int .i64 x.f5, .int .i64 x.f6, .int .i64 x.f7, .int .i64 x.f8, .int .i64 x.f9], rfl, rfl, ⟨[.int .i64 x.f2], [.string x.f3, .string x.f4, .int .i64 x.f5, .int .i64 x.f6, .int .i64 x.f7, .int .i64 x.f8, .int .i64 x.f9], rfl, rfl, ⟨[.string x.f3], [.string x.f4, .int .i64 x.f5, .int .i64 x.f6, .int .i64 x.f7, .int .i64 x.f8, .int .i64 x.f9], rfl, rfl, ⟨[.string x.f4], [.int .i64 x.f5, .int .i64 x.f6, .int .i64 x.f7, .int .i64 x.f8, .int .i64 x.f9], rfl, rfl, ⟨[.int .i64 x.f5], [.int .i64 x.f6, .int .i64 x.f7, .int .i64 x.f8, .int .i64 x.f9], rfl, rfl, ⟨[.int .i64 x.f6], [.int .i64 x.f7, .int .i64 x.f8, .int .i64 x.f9], rfl, rfl, ⟨[.int .i64 x.f7], [.int .i64 x.f8, .int .i64 x.f9], rfl, rfl, ⟨[.int .i64 x.f8], [.int .i64 x.f9], rfl, rfl, rfl⟩⟩⟩⟩⟩⟩⟩⟩⟩
theorem k24_mkF (W : World) (ok : Nat → Prop) (x : S24) : Kd.FK k24 W ok x [.int .i64 x.f0, .string x.f1, .int .i64 x.f2, .string x.f3, .string x.f4, .int .i64 x.f5, .int .i64 x.f6, .int .i64 x.f7, .int .i64 x.f8, .int .i64 x.f9] := fun W2 _ => k24_mk W2 x
def rd_T24 (xs : List S24) (i : Int) : S24 := xs.getD i.toNat z24
abbrev cT24 (w : World) (p : Addr) (z : S24) (q : Prop) : Prop := w.cell? p = some (.int .i64 z.f0) ∧ w.cell? ⟨p.block, p.off + 1, none⟩ = some (.string z.f1) ∧ w.cell? ⟨p.block, p.off + 2, none⟩ = some (.int .i64 z.f2) ∧ w.cell? ⟨p.block, p.off + 3, none⟩ = some (.string z.f3) ∧ w.cell? ⟨p.block, p.off + 4, none⟩ = some (.string z.f4) ∧ w.cell? ⟨p.block, p.off + 5, none⟩ = some (.int .i64 z.f5) ∧ w.cell? ⟨p.block, p.off + 6, none⟩ = some (.int .i64 z.f6) ∧ w.cell? ⟨p.block, p.off + 7, none⟩ = some (.int .i64 z.f7) ∧ w.cell? ⟨p.block, p.off + 8, none⟩ = some (.int .i64 z.f8) ∧ w.cell? ⟨p.block, p.off + 9, none⟩ = some (.int .i64 z.f9) ∧ q
abbrev eT24 (w : World) (p : Addr) (z : S24) : Prop := w.cell? p = some (.int .i64 z.f0) ∧ w.cell? ⟨p.block, p.off + 1, none⟩ = some (.string z.f1) ∧ w.cell? ⟨p.block, p.off + 2, none⟩ = some (.int .i64 z.f2) ∧ w.cell? ⟨p.block, p.off + 3, none⟩ = some (.string z.f3) ∧ w.cell? ⟨p.block, p.off + 4, none⟩ = some (.string z.f4) ∧ w.cell? ⟨p.block, p.off + 5, none⟩ = some (.int .i64 z.f5) ∧ w.cell? ⟨p.block, p.off + 6, none⟩ = some (.int .i64 z.f6) ∧ w.cell? ⟨p.block, p.off + 7, none⟩ = some (.int .i64 z.f7) ∧ w.cell? ⟨p.block, p.off + 8, none⟩ = some (.int .i64 z.f8) ∧ w.cell? ⟨p.block, p.off + 9, none⟩ = some (.int .i64 z.f9)
theorem at_T24 {w : World} {A : Option Addr} {n : Nat} {xs : List S24} (h : Kd.C k24 w A n xs) (i : Int) (h0 : 0 ≤ i) (h1 : i < n) : ∃ ad , A = some ad ∧ w.cell? (ad.add (i.toNat * 10)) = some (.int .i64 (rd_T24 xs i).f0) ∧ w.cell? ⟨(ad.add (i.toNat * 10)).block, (ad.add (i.toNat * 10)).off + 1, none⟩ = some (.string (rd_T24 xs i).f1) ∧ w.cell? ⟨(ad.add (i.toNat * 10)).block, (ad.add (i.toNat * 10)).off + 2, none⟩ = some (.int .i64 (rd_T24 xs i).f2) ∧ w.cell? ⟨(ad.add (i.toNat * 10)).block, (ad.add (i.toNat * 10)).off + 3, none⟩ = some (.string (rd_T24 xs i).f3) ∧ w.cell? ⟨(ad.add (i.toNat * 10)).block, (ad.add (i.toNat * 10)).off + 4, none⟩ = some (.string (rd_T24 xs i).f4) ∧ w.cell? ⟨(ad.add (i.toNat * 10)).block, (ad.add (i.toNat * 10)).off + 5, none⟩ = some (.int .i64 (rd_T24 xs i).f5) ∧ w.cell? ⟨(ad.add (i.toNat * 10)).block, (ad.add (i.toNat * 10)).off + 6, none⟩ = some (.int .i64 (rd_T24 xs i).f6) ∧ w.cell? ⟨(ad.add (i.toNat * 10)).block, (ad.add (i.toNat * 10)).off + 7, none⟩ = some (.int .i64 (rd_T24 xs i).f7) ∧ w.cell? ⟨(ad.add (i.toNat * 10)).block, (ad.add (i.toNat * 10)).off + 8, none⟩ = some (.int .i64 (rd_T24 xs i).f8) ∧ w.cell? ⟨(ad.add (i.toNat * 10)).block, (ad.add (i.toNat * 10)).off + 9, none⟩ = some (.int .i64 (rd_T24 xs i).f9) := by
  obtain ⟨ad, c, e, _, hK, hc0⟩ := Kd.C_get h z24 i h0 h1
  have hc : ∀ j u, c[j]? = some u → w.cell? (ad.add (i.toNat * 10 + j)) = some u := hc0
  obtain rfl := k24_open hK
  exact ⟨ad, e, hc 0 _ rfl, by rw [← add_field _ _ 1 (by omega)]; exact hc 1 _ rfl, by rw [← add_field _ _ 2 (by omega)]; exact hc 2 _ rfl, by rw [← add_field _ _ 3 (by omega)]; exact hc 3 _ rfl, by rw [← add_field _ _ 4 (by omega)]; exact hc 4 _ rfl, by rw [← add_field _ _ 5 (by omega)]; exact hc 5 _ rfl, by rw [← add_field _ _ 6 (by omega)]; exact hc 6 _ rfl, by rw [← add_field _ _ 7 (by omega)]; exact hc 7 _ rfl, by rw [← add_field _ _ 8 (by omega)]; exact hc 8 _ rfl, by rw [← add_field _ _ 9 (by omega)]; exact hc 9 _ rfl⟩

def rd_L11 (xs : List (List S68)) (i : Int) : (List S68) := xs.getD i.toNat ([] : List S68)
theorem at_L11 {w : World} {A : Option Addr} {n : Nat} {xs : List (List S68)} (h : Kd.C (Kd.slice 68 k68) w A n xs) (i : Int) (h0 : 0 ≤ i) (h1 : i < n) : ∃ ad A0 c0, A = some ad ∧ w.cell? (ad.add i.toNat) = some (.slice A0 (rd_L11 xs i).length c0) ∧ (rd_L11 xs i).length ≤ c0 ∧ k68.C w A0 (rd_L11 xs i).length (rd_L11 xs i) := by
  obtain ⟨ad, c, e, _, hK, hc0⟩ := Kd.C_get h ([] : List S68) i h0 h1
  have hc : ∀ j u, c[j]? = some u → w.cell? (ad.add (i.toNat * 1 + j)) = some u := hc0
  obtain ⟨A0, c0, rfl, l0, g0⟩ := hK
  exact ⟨ad, A0, c0, e, by have hq := hc 0 _ rfl; rwa [Nat.mul_one, Nat.add_zero] at hq, l0, g0⟩

def rd_L12 (xs : List (List S53)) (i : Int) : (List S53) := xs.getD i.toNat ([] : List S53)
theorem at_L12 {w : World} {A : Option Addr} {n : Nat} {xs : List (List S53)} (h : Kd.C (Kd.slice 53 k53) w A n xs) (i : Int) (h0 : 0 ≤ i) (h1 : i < n) : ∃ ad A0 c0, A = some ad ∧ w.cell? (ad.add i.toNat) = some (.slice A0 (rd_L12 xs i).length c0) ∧ (rd_L12 xs i).length ≤ c0 ∧ k53.C w A0 (rd_L12 xs i).length (rd_L12 xs i) := by
  obtain ⟨ad, c, e, _, hK, hc0⟩ := Kd.C_get h ([] : List S53) i h0 h1
  have hc : ∀ j u, c[j]? = some u → w.cell? (ad.add (i.toNat * 1 + j)) = some u := hc0
  obtain ⟨A0, c0, rfl, l0, g0⟩ := hK
  exact ⟨ad, A0, c0, e, by have hq := hc 0 _ rfl; rwa [Nat.mul_one, Nat.add_zero] at hq, l0, g0⟩

/-! #### struct type 34 -/
structure S34 where
  f0 : (List S68)
  f1 : (List S53)
  f2 : (List S53)
def z34 : S34 := ⟨([] : List S68), ([] : List S53), ([] : List S53)⟩
def k34 : Kd S34 := Kd.iso (Kd.pair (Kd.slice 68 k68) (Kd.pair (Kd.slice 53 k53) (Kd.slice 53 k53))) (fun x : S34 => (x.f0, x.f1, x.f2))
theorem k34_open {w : World} {x : S34} {cs : List Value} (h : k34.K w x cs) : ∃ A0 c0 A1 c1 A2 c2, cs = [.slice A0 x.f0.length c0, .slice A1 x.f1.length c1, .slice A2 x.f2.length c2] ∧ x.f0.length ≤ c0 ∧ k68.C w A0 x.f0.length x.f0 ∧ x.f1.length ≤ c1 ∧ k53.C w A1 x.f1.length x.f1 ∧ x.f2.length ≤ c2 ∧ k53.C w A2 x.f2.length x.f2 := by
  obtain ⟨_, _, rfl, ⟨A0, c0, rfl, l0, g0⟩, ⟨_, _, rfl, ⟨A1, c1, rfl, l1, g1⟩, ⟨A2, c2, rfl, l2, g2⟩⟩⟩ := h
  exact ⟨A0, c0, A1, c1, A2, c2, rfl, l0, g0, l1, g1, l2, g2⟩
theorem k34_openM {w : World} {base : Nat} {ok : Nat → Prop} {x : S34} {cs : List Value} (h : k34.M w base ok x cs) : ∃ v0 v1 v2, cs = [v0, v1, v2] ∧ k68.R 68 w base ok v0 x.f0 ∧ k53.R 53 w base ok v1 x.f1 ∧ k53.R 53 w base ok v2 x.f2 := by
  obtain ⟨_, _, rfl, ⟨v0, rfl, g0⟩, ⟨_, _, rfl, ⟨v1, rfl, g1⟩, ⟨v2, rfl, g2⟩⟩⟩ := h
  exact ⟨v0, v1, v2, rfl, g0, g1, g2⟩
theorem k34_mk (w : World) (x : S34) {A0 : Option Addr} {c0 : Nat} (l0 : x.f0.length ≤ c0) (g0 : k68.C w A0 x.f0.length x.f0) {A1 : Option Addr} {c1 : Nat} (l1 : x.f1.length ≤ c1) (g1 : k53.C w A1 x.f1.length x.f1) {A2 : Option Addr} {c2 : Nat} (l2 : x.f2.length ≤ c2) (g2 : k53.C w A2 x.f2.length x.f2) : k34.K w x [.slice A0 x.f0.length c0, .slice A1 x.f1.length c1, .slice A2 x.f2.length c2] := ⟨[.slice A0 x.f0.length c0], [.slice A1 x.f1.length c1, .slice A2 x.f2.length c2], rfl, ⟨A0, c0, rfl, l0, g0⟩, ⟨[.slice A1 x.f1.length c1], [.slice A2 x.f2.length c2], rfl, ⟨A1, c1, rfl, l1, g1⟩, ⟨A2, c2, rfl, l2, g2⟩⟩⟩
theorem k34_mkM (w : World) (base : Nat) (ok : Nat → Prop) (x : S34) {v0 : Value} (g0 : k68.R 68 w base ok v0 x.f0) {v1 : Value} (g1 : k53.R 53 w base ok v1 x.f1) {v2 : Value} (g2 : k53.R 53 w base ok v2 x.f2) : k34.M w base ok x [v0, v1, v2] := ⟨[v0], [v1, v2], rfl, ⟨v0, rfl, g0⟩, ⟨[v1], [v2], rfl, ⟨v1, rfl, g1⟩, ⟨v2, rfl, g2⟩⟩⟩
theorem k34_openF {W : World} {ok : Nat → Prop} {x : S34} {cs : List Value} (h : Kd.FK k34 W ok x cs) : ∃ A0 c0 A1 c1 A2 c2, cs = [.slice A0 x.f0.length c0, .slice A1 x.f1.length c1, .slice A2 x.f2.length c2] ∧ x.f0.length ≤ c0 ∧ Kd.F k68 W ok A0 x.f0.length x.f0 ∧ x.f1.length ≤ c1 ∧ Kd.F k53 W ok A1 x.f1.length x.f1 ∧ x.f2.length ≤ c2 ∧ Kd.F k53 W ok A2 x.f2.length x.f2 := by
  obtain ⟨A0, c0, A1, c1, A2, c2, rfl, l0, _, l1, _, l2, _⟩ := k34_open (Kd.FK_now h)
  exact ⟨A0, c0, A1, c1, A2, c2, rfl, l0, (fun W' hW => by obtain ⟨A0_, c0_, A1_, c1_, A2_, c2_, he, l0_, g0_, l1_, g1_, l2_, g2_⟩ := k34_open (h W' hW); injection (Option.some.inj (show some (Value.slice A0 x.f0.length c0) = some (Value.slice A0_ x.f0.length c0_) from congrArg (fun l => l[0]?) he)) with ha_ _ _; rw [ha_]; exact g0_), l1, (fun W' hW => by obtain ⟨A0_, c0_, A1_, c1_, A2_, c2_, he, l0_, g0_, l1_, g1_, l2_, g2_⟩ := k34_open (h W' hW); injection (Option.some.inj (show some (Value.slice A1 x.f1.length c1) = some (Value.slice A1_ x.f1.length c1_) from congrArg (fun l => l[1]?) he)) with ha_ _ _; rw [ha_]; exact g1_), l2, (fun W' hW => by obtain ⟨A0_, c0_, A1_, c1_, A2_, c2_, he, l0_, g0_, l1_, g1_, l2_, g2_⟩ := k34_open (h W' hW); injection (Option.some.inj (show some (Value.slice A2 x.f2.length c2) = some (Value.slice A2_ x.f2.length c2_) from congrArg (fun l => l[2]?) he)) with ha_ _ _; rw [ha_]; exact g2_)⟩
theorem k34_mkF (W : World) (ok : Nat → Prop) (x : S34) {A0 : Option Addr} {c0 : Nat} (l0 : x.f0.length ≤ c0) (g0 : Kd.F k68 W ok A0 x.f0.length x.f0) {A1 : Option Addr} {c1 : Nat} (l1 : x.f1.length ≤ c1) (g1 : Kd.F k53 W ok A1 x.f1.length x.f1) {A2 : Option Addr} {c2 : Nat} (l2 : x.f2.length ≤ c2) (g2 : Kd.F k53 W ok A2 x.f2.length x.f2) : Kd.FK k34 W ok x [.slice A0 x.f0.length c0, .slice A1 x.f1.length c1, .slice A2 x.f2.length c2] := fun W2 hW => k34_mk W2 x l0 (g0 W2 hW) l1 (g1 W2 hW) l2 (g2 W2 hW)
def rd_T34 (xs : List S34) (i : Int) : S34 := xs.getD i.toNat z34
theorem at_T34 {w : World} {A : Option Addr} {n : Nat} {xs : List S34} (h : Kd.C k34 w A n xs) (i : Int) (h0 : 0 ≤ i) (h1 : i < n) : ∃ ad A0 c0 A1 c1 A2 c2, A = some ad ∧ w.cell? (ad.add (i.toNat * 3)) = some (.slice A0 (rd_T34 xs i).f0.length c0) ∧ w.cell? ⟨(ad.add (i.toNat * 3)).block, (ad.add (i.toNat * 3)).off + 1, none⟩ = some (.slice A1 (rd_T34 xs i).f1.length c1) ∧ w.cell? ⟨(ad.add (i.toNat * 3)).block, (ad.add (i.toNat * 3)).off + 2, none⟩ = some (.slice A2 (rd_T34 xs i).f2.length c2) ∧ (rd_T34 xs i).f0.length ≤ c0 ∧ k68.C w A0 (rd_T34 xs i).f0.length (rd_T34 xs i).f0 ∧ (rd_T34 xs i).f1.length ≤ c1 ∧ k53.C w A1 (rd_T34 xs i).f1.length (rd_T34 xs i).f1 ∧ (rd_T34 xs i).f2.length ≤ c2 ∧ k53.C w A2 (rd_T34 xs i).f2.length (rd_T34 xs i).f2 := by
  obtain ⟨ad, c, e, _, hK, hc0⟩ := Kd.C_get h z34 i h0 h1
  have hc : ∀ j u, c[j]? = some u → w.cell? (ad.add (i.toNat * 3 + j)) = some u := hc0
  obtain ⟨A0, c0, A1, c1, A2, c2, rfl, l0, g0, l1, g1, l2, g2⟩ := k34_open hK
  exact ⟨ad, A0, c0, A1, c1, A2, c2, e, hc 0 _ rfl, by rw [← add_field _ _ 1 (by omega)]; exact hc 1 _ rfl, by rw [← add_field _ _ 2 (by omega)]; exact hc 2 _ rfl, l0, g0, l1, g1, l2, g2⟩

/-! #### struct type 36 -/
structure S36 where
  f0 : Int
  f1 : Int
  f2 : Int
  f3 : Bool
  f4 : ByteArray
  f5 : ByteArray
  f6 : Int
  f7 : Int
  f8 : Int
  f9 : Int
  f10 : S34
def z36 : S36 := ⟨(0 : Int), (0 : Int), (0 : Int), false, (⟨#[]⟩ : ByteArray), (⟨#[]⟩ : ByteArray), (0 : Int), (0 : Int), (0 : Int), (0 : Int), z34⟩
def k36 : Kd S36 := Kd.iso (Kd.pair (Kd.int .i64) (Kd.pair (Kd.int .i64) (Kd.pair (Kd.int .i64) (Kd.pair Kd.bool (Kd.pair Kd.string (Kd.pair Kd.string (Kd.pair (Kd.int .i64) (Kd.pair (Kd.int .i64) (Kd.pair (Kd.int .i64) (Kd.pair (Kd.int .i64) k34)))))))))) (fun x : S36 => (x.f0, x.f1, x.f2, x.f3, x.f4, x.f5, x.f6, x.f7, x.f8, x.f9, x.f10))
theorem k36_open {w : World} {x : S36} {cs : List Value} (h : k36.K w x cs) : ∃ A10 c10 A11 c11 A12 c12, cs = [.int .i64 x.f0, .int .i64 x.f1, .int .i64 x.f2, .bool x.f3, .string x.f4, .string x.f5, .int .i64 x.f6, .int .i64 x.f7, .int .i64 x.f8, .int .i64 x.f9, .slice A10 x.f10.f0.length c10, .slice A11 x.f10.f1.length c11, .slice A12 x.f10.f2.length c12] ∧ x.f10.f0.length ≤ c10 ∧ k68.C w A10 x.f10.f0.length x.f10.f0 ∧ x.f10.f1.length ≤ c11 ∧ k53.C w A11 x.f10.f1.length x.f10.f1 ∧ x.f10.f2.length ≤ c12 ∧ k53.C w A12 x.f10.f2.length x.f10.f2 := by
  obtain ⟨_, _, rfl, rfl, ⟨_, _, rfl, rfl, ⟨_, _, rfl, rfl, ⟨_, _, rfl, rfl, ⟨_, _, rfl, rfl, ⟨_, _, rfl, rfl, ⟨_, _, rfl, rfl, ⟨_, _, rfl, rfl, ⟨_, _, rfl, rfl, ⟨_, _, rfl, rfl, s10⟩⟩⟩⟩⟩⟩⟩⟩⟩⟩ := h
  obtain ⟨A10, c10, A11, c11, A12, c12, rfl, l10, g10, l11, g11, l12, g12⟩ := k34_open s10
  exact ⟨A10, c10, A11, c11, A12, c12, rfl, l10, g10, l11, g11, l12, g12⟩
theorem k36_openM {w : World} {base : Nat} {ok : Nat → Prop} {x : S36} {cs : List Value} (h : k36.M w base ok x cs) : ∃ v10 v11 v12, cs = [.int .i64 x.f0, .int .i64 x.f1, .int .i64 x.f2, .bool x.f3, .string x.f4, .string x.f5, .int .i64 x.f6, .int .i64 x.f7, .int .i64 x.f8, .int .i64 x.f9, v10, v11, v12] ∧ k68.R 68 w base ok v10 x.f10.f0 ∧ k53.R 53 w base ok v11 x.f10.f1 ∧ k53.R 53 w base ok v12 x.f10.f2 := by
  obtain ⟨_, _, rfl, rfl, ⟨_, _, rfl, rfl, ⟨_, _, rfl, rfl, ⟨_, _, rfl, rfl, ⟨_, _, rfl, rfl, ⟨_, _, rfl, rfl, ⟨_, _, rfl, rfl, ⟨_, _, rfl, rfl, ⟨_, _, rfl, rfl, ⟨_, _, rfl, rfl, s10⟩⟩⟩⟩⟩⟩⟩⟩⟩⟩ := h
  obtain ⟨v10, v11, v12, rfl, g10, g11, g12⟩ := k34_openM s10
  exact ⟨v10, v11, v12, rfl, g10, g11, g12⟩
theorem k36_mk (w : World) (x : S36) {A10 : Option Addr} {c10 : Nat} (l10 : x.f10.f0.length ≤ c10) (g10 : k68.C w A10 x.f10.f0.length x.f10.f0) {A11 : Option Addr} {c11 : Nat} (l11 : x.f10.f1.length ≤ c11) (g11 : k53.C w A11 x.f10.f1.length x.f10.f1) {A12 : Option Addr} {c12 : Nat} (l12 : x.f10.f2.length ≤ c12) (g12 : k53.C w A12 x.f10.f2.length x.f10.f2) : k36.K w x [.int .i64 x.f0, .int .i64 x.f1, .int .i64 x.f2, .bool x.f3, .string x.f4, .string x.f5, .int .i64 x.f6, .int .i64 x.f7, .int .i64 x.f8, .int .i64 x.f9, .slice A10 x.f10.f0.length c10, .slice A11 x.f10.f1.length c11, .slice A12 x.f10.f2.length c12] := ⟨[.int .i64 x.f0], [.int .i64 x.f1, .int .i64 x.f2, .bool x.f3, .string x.f4, .string x.f5, .int .i64 x.f6, .int .i64 x.f7, .int .i64 x.f8, .int .i64 x.f9, .slice A10 x.f10.f0.length c10, .slice A11 x.f10.f1.length c11, .slice A12 x.f10.f2.length c12], rfl, rfl, ⟨[.int .i64 x.f1], [.int .i64 x.f2, .bool x.f3, .string x.f4, .string x.f5, .int .i64 x.f6, .int .i64 x.f7, .int .i64 x.f8, .int .i64 x.f9, .slice A10 x.f10.f0.length c10, .slice A11 x.f10.f1.length c11, .slice A12 x.f10.f2.length c12], rfl, rfl, ⟨[.int .i64 x.f2], [.bool x.f3, .string x.f4, .string x.f5, .int .i64 x.f6, .int .i64 x.f7, .int .i64 x.f8, .int .i64 x.f9, .slice A10 x.f10.f0.length c10, .slice A11 x.f10.f1.length c11, .slice A12 x.f10.f2.length c12], rfl, rfl, ⟨[.bool x.f3], [.string x.f4, .string x.f5, .int .i64 x.f6, .int .i64 x.f7, .int .i64 x.f8, .int .i64 x.f9, .slice A10 x.f10.f0.length c10, .slice A11 x.f10.f1.length c11, .slice A12 x.f10.f2.length c12], rfl, rfl, ⟨[.string x.f4], [.string x.f5, .int .i64 x.f6, .int .i64 x.f7, .int .i64 x.f8, .int .i64 x.f9, .slice A10 x.f10.f0.length c10, .slice A11 x.f10.f1.length c11, .slice A12 x.f10.f2.length c12], rfl, rfl, ⟨[.string x.f5], [.int .i64 x.f6, .int .i64 x.f7, .int .i64 x.f8, .int .i64 x.f9, .slice A10 x.f10.f0.length c10, .slice A11 x.f10.f1.length c11, .slice A12 x.f10.f2.length c12], rfl, rfl, ⟨[.int .i64 x.f6], [.int .i64 x.f7, .int .i64 x.f8, .int .i64 x.f9, .slice A10 x.f10.f0.length c10, .slice A11 x.f10.f1.length c11, .slice A12 x.f10.f2.length c12], rfl, rfl, ⟨[.int .i64 x.f7], [.int .i64 x.f8, .int .i64 x.f9, .slice A10 x.f10.f0.length c10, .slice A11 x.f10.f1.length c11, .slice A12 x.f10.f2.length c12], rfl, rfl, ⟨[.int .i64 x.f8], [.int .i64 x.f9, .slice A10 x.f10.f0.length c10, .slice A11 x.f10.f1.length c11, .slice A12 x.f10.f2.length c12], rfl, rfl, ⟨[.int .i64 x.f9], [.slice A10 x.f10.f0.length c10, .slice A11 x.f10.f1.length c11, .slice A12 x.f10.f2.length c12], rfl, rfl, (k34_mk w x.f10 l10 g10 l11 g11 l12 g12)⟩⟩⟩⟩⟩⟩⟩⟩⟩⟩
theorem k36_mkM (w : World) (base : Nat) (ok : Nat → Prop) (x : S36) {v10 : Value} (g10 : k68.R 68 w base ok v10 x.f10.f0) {v11 : Value} (g11 : k53.R 53 w base ok v11 x.f10.f1) {v12 : Value} (g12 : k53.R 53 w base ok v12 x.f10.f2) : k36.M w base ok x [.int .i64 x.f0, .int .i64 x.f1, .int .i64 x.f2, .bool x.f3, .string x.f4, .string x.f5, .int .i64 x.f6, .int .i64 x.f7, .int .i64 x.f8, .int .i64 x.f9, v10, v11, v12] := ⟨[.int .i64 x.f0], [.int .i64 x.f1, .int .i64 x.f2, .bool x.f3, .string x.f4, .string x.f5, .int .i64 x.f6, .int .i64 x.f7, .int .i64 x.f8, .int .i64 x.f9, v10, v11, v12], rfl, rfl, ⟨[.int .i64 x.f1], [.int .i64 x.f2, .bool x.f3, .string x.f4, .string x.f5, .int .i64 x.f6, .int .i64 x.f7, .int .i64 x.f8, .int .i64 x.f9, v10, v11, v12], rfl, rfl, ⟨[.int .i64 x.f2], [.bool x.f3, .string x.f4, .string x.f5, .int .i64 x.f6, .int .i64 x.f7, .int .i64 x.f8, .int .i64 x.f9, v10, v11, v12], rfl, rfl, ⟨[.bool x.f3], [.string x.f4, .string x.f5, .int .i64 x.f6, .int .i64 x.f7, .int .i64 x.f8, .int .i64 x.f9, v10, v11, v12], rfl, rfl, ⟨[.string x.f4], [.string x.f5, .int .i64 x.f6, .int .i64 x.f7, .int .i64 x.f8, .int .i64 x.f9, v10, v11, v12], rfl, rfl, ⟨[.string x.f5], [.int .i64 x.f6, .int .i64 x.f7, .int .i64 x.f8, .int .i64 x.f9, v10, v11, v12], rfl, rfl, ⟨[.int .i64 x.f6], [.int .i64 x.f7, .int .i64 x.f8, .int .i64 x.f9, v10, v11, v12], rfl, rfl, ⟨[.int .i64 x.f7], [.int .i64 x.f8, .int .i64 x.f9, v10, v11, v12], rfl, rfl, ⟨[.int .i64 x.f8], [.int .i64 x.f9, v10, v11, v12], rfl, rfl, ⟨[.int .i64 x.f9], [v10, v11, v12], rfl, rfl, (k34_mkM w base ok x.f10 g10 g11 g12)⟩⟩⟩⟩⟩⟩⟩⟩⟩⟩
theorem k36_openF {W : World} {ok : Nat → Prop} {x : S36} {cs : List Value} (h : Kd.FK k36 W ok x cs) : ∃ A10 c10 A11 c11 A12 c12, cs = [.int .i64 x.f0, .int .i64 x.f1, .int .i64 x.f2, .bool x.f3, .string x.f4, .string x.f5, .int .i64 x.f6, .int .i64 x.f7, .int .i64 x.f8, .int .i64 x.f9, .slice A10 x.f10.f0.length c10, .slice A11 x.f10.f1.length c11, .slice A12 x.f10.f2.length c12] ∧ x.f10.f0.length ≤ c10 ∧ Kd.F k68 W ok A10 x.f10.f0.length x.f10.f0 ∧ x.f10.f1.length ≤ c11 ∧ Kd.F k53 W ok A11 x.f10.f1.length x.f10.f1 ∧ x.f10.f2.length ≤ c12 ∧ Kd.F k53 W ok A12 x.f10.f2.length x.f10.f2 := by
  obtain ⟨A10, c10, A11, c11, A12, c12, rfl, l10, _, l11, _, l12, _⟩ := k36_open (Kd.FK_now h)
  exact ⟨A10, c10, A11, c11, A12, c12, rfl, l10, (fun W' hW => by obtain ⟨A10_, c10_, A11_, c11_, A12_, c12_, he, l10_, g10_, l11_, g11_, l12_, g12_⟩ := k36_open (h W' hW); injection (Option.some.inj (show some (Value.slice A10 x.f10.f0.length c10) = some (Value.slice A10_ x.f10.f0.length c10_) from congrArg (fun l => l[10]?) he)) with ha_ _ _; rw [ha_]; exact g10_), l11, (fun W' hW => by obtain ⟨A10_, c10_, A11_, c11_, A12_, c12_, he, l10_, g10_, l11_, g11_, l12_, g12_⟩ := k36_open (h W' hW); injection (Option.some.inj (show some (Value.slice A11 x.f10.f1.length c11) = some (Value.slice A11_ x.f10.f1.length c11_) from congrArg (fun l => l[11]?) he)) with ha_ _ _; rw [ha_]; exact g11_), l12, (fun W' hW => by obtain ⟨A10_, c10_, A11_, c11_, A12_, c12_, he, l10_, g10_, l11_, g11_, l12_, g12_⟩ := k36_open (h W' hW); injection (Option.some.inj (show some (Value.slice A12 x.f10.f2.length c12) = some (Value.slice A12_ x.f10.f2.length c12_) from congrArg (fun l => l[12]?) he)) with ha_ _ _; rw [ha_]; exact g12_)⟩
theorem k36_mkF (W : World) (ok : Nat → Prop) (x : S36) {A10 : Option Addr} {c10 : Nat} (l10 : x.f10.f0.length ≤ c10) (g10 : Kd.F k68 W ok A10 x.f10.f0.length x.f10.f0) {A11 : Option Addr} {c11 : Nat} (l11 : x.f10.f1.length ≤ c11) (g11 : Kd.F k53 W ok A11 x.f10.f1.length x.f10.f1) {A12 : Option Addr} {c12 : Nat} (l12 : x.f10.f2.length ≤ c12) (g12 : Kd.F k53 W ok A12 x.f10.f2.length x.f10.f2) : Kd.FK k36 W ok x [.int .i64 x.f0, .int .i64 x.f1, .int .i64 x.f2, .bool x.f3, .string x.f4, .string x.f5, .int .i64 x.f6, .int .i64 x.f7, .int .i64 x.f8, .int .i64 x.f9, .slice A10 x.f10.f0.length c10, .slice A11 x.f10.f1.length c11, .slice A12 x.f10.f2.length c12] := fun W2 hW => k36_mk W2 x l10 (g10 W2 hW) l11 (g11 W2 hW) l12 (g12 W2 hW)
def rd_T36 (xs : List S36) (i : Int) : S36 := xs.getD i.toNat z36
theorem at_T36 {w : World} {A : Option Addr} {n : Nat} {xs : List S36} (h : Kd.C k36 w A n xs) (i : Int) (h0 : 0 ≤ i) (h1 : i < n) : ∃ ad A10 c10 A11 c11 A12 c12, A = some ad ∧ w.cell? (ad.add (i.toNat * 13)) = some (.int .i64 (rd_T36 xs i).f0) ∧ w.cell? ⟨(ad.add (i.toNat * 13)).block, (ad.add (i.toNat * 13)).off + 1, none⟩ = some (.int .i64 (rd_T36 xs i).f1) ∧ w.cell? ⟨(ad.add (i.toNat * 13)).block, (ad.add (i.toNat * 13)).off + 2, none⟩ = some (.int .i64 (rd_T36 xs i).f2) ∧ w.cell? ⟨(ad.add (i.toNat * 13)).block, (ad.add (i.toNat * 13)).off + 3, none⟩ = some (.bool (rd_T36 xs i).f3) ∧ w.cell? ⟨(ad.add (i.toNat * 13)).block, (ad.add (i.toNat * 13)).off + 4, none⟩ = some (.string (rd_T36 xs i).f4) ∧ w.cell? ⟨(ad.add (i.toNat * 13)).block, (ad.add (i.toNat * 13)).off + 5, none⟩ = some (.string (rd_T36 xs i).f5) ∧ w.cell? ⟨(ad.add (i.toNat * 13)).block, (ad.add (i.toNat * 13)).off + 6, none⟩ = some (.int .i64 (rd_T36 xs i).f6) ∧ w.cell? ⟨(ad.add (i.toNat * 13)).block, (ad.add (i.toNat * 13)).off + 7, none⟩ = some (.int .i64 (rd_T36 xs i).f7) ∧ w.cell? ⟨(ad.add (i.toNat * 13)).block, (ad.add (i.toNat * 13)).off + 8, none⟩ = some (.int .i64 (rd_T36 xs i).f8) ∧ w.cell? ⟨(ad.add (i.toNat * 13)).block, (ad.add (i.toNat * 13)).off + 9, none⟩ = some (.int .i64 (rd_T36 xs i).f9) ∧ w.cell? ⟨(ad.add (i.toNat * 13)).block, (ad.add (i.toNat * 13)).off + 10, none⟩ = some (.slice A10 (rd_T36 xs i).f10.f0.length c10) ∧ w.cell? ⟨(ad.add (i.toNat * 13)).block, (ad.add (i.toNat * 13)).off + 11, none⟩ = some (.slice A11 (rd_T36 xs i).f10.f1.length c11) ∧ w.cell? ⟨(ad.add (i.toNat * 13)).block, (ad.add (i.toNat * 13)).off + 12, none⟩ = some (.slice A12 (rd_T36 xs i).f10.f2.length c12) ∧ (rd_T36 xs i).f10.f0.length ≤ c10 ∧ k68.C w A10 (rd_T36 xs i).f10.f0.length (rd_T36 xs i).f10.f0 ∧ (rd_T36 xs i).f10.f1.length ≤ c11 ∧ k53.C w A11 (rd_T36 xs i).f10.f1.length (rd_T36 xs i).f10.f1 ∧ (rd_T36 xs i).f10.f2.length ≤ c12 ∧ k53.C w A12 (rd_T36 xs i).f10.f2.length (rd_T36 xs i).f10.f2 := by
  obtain ⟨ad, c, e, _, hK, hc0⟩ := Kd.C_get h z36 i h0 h1
  have hc : ∀ j u, c[j]? = some u → w.cell? (ad.add (i.toNat * 13 + j)) = some u := hc0
  obtain ⟨A10, c10, A11, c11, A12, c12, rfl, l10, g10, l11, g11, l12, g12⟩ := k36_open hK
  exact ⟨ad, A10, c10, A11, c11, A12, c12, e, hc 0 _ rfl, by rw [← add_field _ _ 1 (by omega)]; exact hc 1 _ rfl, by rw [← add_field _ _ 2 (by omega)]; exact hc 2 _ rfl, by rw [← add_field _ _ 3 (by omega)]; exact hc 3 _ rfl, by rw [← add_field _ _ 4 (by omega)]; exact hc 4 _ rfl, by rw [← add_field _ _ 5 (by omega)]; exact hc 5 _ rfl, by rw [← add_field _ _ 6 (by omega)]; exact hc 6 _ rfl, by rw [← add_field _ _ 7 (by omega)]; exact hc 7 _ rfl, by rw [← add_field _ _ 8 (by omega)]; exact hc 8 _ rfl, by rw [← add_field _ _ 9 (by omega)]; exact hc 9 _ rfl, by rw [← add_field _ _ 10 (by omega)]; exact hc 10 _ rfl, by rw [← add_field _ _ 11 (by omega)]; exact hc 11 _ rfl, by rw [← add_field _ _ 12 (by omega)]; exact hc 12 _ rfl, l10, g10, l11, g11, l12, g12⟩

/-! #### struct type 48 -/
structure S48 where
  f0 : Int
  f1 : Int
  f2 : Int
  f3 : Int
  f4 : Int
  f5 : Int
  f6 : Bool
  f7 : (List S43)
  f8 : (List S50)
def z48 : S48 := ⟨(0 : Int), (0 : Int), (0 : Int), (0 : Int), (0 : Int), (0 : Int), false, ([] : List S43), ([] : List S50)⟩
def k48 : Kd S48 := Kd.iso (Kd.pair (Kd.int .i64) (Kd.pair (Kd.int .i64) (Kd.pair (Kd.int .i64) (Kd.pair (Kd.int .i64) (Kd.pair (Kd.int .i64) (Kd.pair (Kd.int .i64) (Kd.pair Kd.bool (Kd.pair (Kd.slice 43 k43) (Kd.slice 50 k50))))))))) (fun x : S48 => (x.f0, x.f1, x.f2, x.f3, x.f4, x.f5, x.f6, x.f7, x.f8))
theorem k48_open {w : World} {x : S48} {cs : List Value} (h : k48.K w x cs) : ∃ A7 c7 A8 c8, cs = [.int .i64 x.f0, .int .i64 x.f1, .int .i64 x.f2, .int .i64 x.f3, .int .i64 x.f4, .int .i64 x.f5, .bool x.f6, .slice A7 x.f7.length c7, .slice A8 x.f8.length c8] ∧ x.f7.length ≤ c7 ∧ k43.C w A7 x.f7.length x.f7 ∧ x.f8.length ≤ c8 ∧ k50.C w A8 x.f8.length x.f8 := by
  obtain ⟨_, _, rfl, rfl, ⟨_, _, rfl, rfl, ⟨_, _, rfl, rfl, ⟨_, _, rfl, rfl, ⟨_, _, rfl, rfl, ⟨_, _, rfl, rfl, ⟨_, _, rfl, rfl, ⟨_, _, rfl, ⟨A7, c7, rfl, l7, g7⟩, ⟨A8, c8, rfl, l8, g8⟩⟩⟩⟩⟩⟩⟩⟩⟩ := h
  exact ⟨A7, c7, A8, c8, rfl, l7, g7, l8, g8⟩
theorem k48_openM {w : World} {base : Nat} {ok : Nat → Prop} {x : S48} {cs : List Value} (h : k48.M w base ok x cs) : ∃ v7 v8, cs = [.int .i64 x.f0, .int .i64 x.f1, .int .i64 x.f2, .int .i64 x.f3, .int .i64 x.f4, .int .i64 x.f5, .bool x.f6, v7, v8] ∧ k43.R 43 w base ok v7 x.f7 ∧ k50.R 50 w base ok v8 x.f8 := by
  obtain ⟨_, _, rfl, rfl, ⟨_, _, rfl, rfl, ⟨_, _, rfl, rfl, ⟨_, _, rfl, rfl, ⟨_, _, rfl, rfl, ⟨_, _, rfl, rfl, ⟨_, _, rfl, rfl, ⟨_, _, rfl, ⟨v7, rfl, g7⟩, ⟨v8, rfl, g8⟩⟩⟩⟩⟩⟩⟩⟩⟩ := h
  exact ⟨v7, v8, rfl, g7, g8⟩
theorem k48_mk (w : World) (x : S48) {A7 : Option Addr} {c7 : Nat} (l7 : x.f7.length ≤ c7) (g7 : k43.C w A7 x.f7.length x.f7) {A8 : Option Addr} {c8 : Nat} (l8 : x.f8.length ≤ c8) (g8 : k50.C w A8 x.f8.length x.f8) : k48.K w x [.int .i64 x.f0, .int .i64 x.f1, .int .i64 x.f2, .int .i64 x.f3, .int .i64 x.f4, .int .i64 x.f5, .bool x.f6, .slice A7 x.f7.length c7, .slice A8 x.f8.length c8] := ⟨[.int .i64 x.f0], [.int .i64 x.f1, .int .i64 x.f2, .int .i64 x.f3, .int .i64 x.f4, .int .i64 x.f5, .bool x.f6, .slice A7 x.f7.length c7, .slice A8 x.f8.length c8], rfl, rfl, ⟨[.int .i64 x.f1], [.int .i64 x.f2, .int .i64 x.f3, .int .i64 x.f4, .int .i64 x.f5, .bool x.f6, .slice A7 x.f7.length c7, .slice A8 x.f8.length c8], rfl, rfl, ⟨[.int .i64 x.f2], [.int .i64 x.f3, .int .i64 x.f4, .int .i64 x.f5, .bool x.f6, .slice A7 x.f7.length c7, .slice A8 x.f8.length c8], rfl, rfl, ⟨[.int .i64 x.f3], [.int .i64 x.f4, .int .i64 x.f5, .bool x.f6, .slice A7 x.f7.length c7, .slice A8 x.f8.length c8], rfl, rfl, ⟨[.int .i64 x.f4], [.int .i64 x.f5, .bool x.f6, .slice A7 x.f7.length c7, .slice A8 x.f8.length c8], rfl, rfl, ⟨[.int .i64 x.f5], [.bool x.f6, .slice A7 x.f7.length c7, .slice A8 x.f8.length c8], rfl, rfl, ⟨[.bool x.f6], [.slice A7 x.f7.length c7, .slice A8 x.f8.length c8], rfl, rfl, ⟨[.slice A7 x.f7.length c7], [.slice A8 x.f8.length c8], rfl, ⟨A7, c7, rfl, l7, g7⟩, ⟨A8, c8, rfl, l8, g8⟩⟩⟩⟩⟩⟩⟩⟩⟩
theorem k48_mkM (w : World) (base : Nat) (ok : Nat → Prop) (x : S48) {v7 : Value} (g7 : k43.R 43 w base ok v7 x.f7) {v8 : Value} (g8 : k50.R 50 w base ok v8 x.f8) : k48.M w base ok x [.int .i64 x.f0, .int .i64 x.f1, .int .i64 x.f2, .int .i64 x.f3, .int .i64 x.f4, .int .i64 x.f5, .bool x.f6, v7, v8] := ⟨[.int .i64 x.f0], [.int .i64 x.f1, .int .i64 x.f2, .int .i64 x.f3, .int .i64 x.f4, .int .i64 x.f5, .bool x.f6, v7, v8], rfl, rfl, ⟨[.int .i64 x.f1], [.int .i64 x.f2, .int .i64 x.f3, .int .i64 x.f4, .int .i64 x.f5, .bool x.f6, v7, v8], rfl, rfl, ⟨[.int .i64 x.f2], [.int .i64 x.f3, .int .i64 x.f4, .int .i64 x.f5, .bool x.f6, v7, v8], rfl, rfl, ⟨[.int .i64 x.f3], [.int .i64 x.f4, .int .i64 x.f5, .bool x.f6, v7, v8], rfl, rfl, ⟨[.int .i64 x.f4], [.int .i64 x.f5, .bool x.f6, v7, v8], rfl, rfl, ⟨[.int .i64 x.f5], [.bool x.f6, v7, v8], rfl, rfl, ⟨[.bool x.f6], [v7, v8], rfl, rfl, ⟨[v7], [v8], rfl, ⟨v7, rfl, g7⟩, ⟨v8, rfl, g8⟩⟩⟩⟩⟩⟩⟩⟩⟩
theorem k48_openF {W : World} {ok : Nat → Prop} {x : S48} {cs : List Value} (h : Kd.FK k48 W ok x cs) : ∃ A7 c7 A8 c8, cs = [.int .i64 x.f0, .int .i64 x.f1, .int .i64 x.f2, .int .i64 x.f3, .int .i64 x.f4, .int .i64 x.f5, .bool x.f6, .slice A7 x.f7.length c7, .slice A8 x.f8.length c8] ∧ x.f7.length ≤ c7 ∧ Kd.F k43 W ok A7 x.f7.length x.f7 ∧ x.f8.length ≤ c8 ∧ Kd.F k50 W ok A8 x.f8.length x.f8 := by
  obtain ⟨A7, c7, A8, c8, rfl, l7, _, l8, _⟩ := k48_open (Kd.FK_now h)
  exact ⟨A7, c7, A8, c8, rfl, l7, (fun W' hW => by obtain ⟨A7_, c7_, A8_, c8_, he, l7_, g7_, l8_, g8_⟩ := k48_open (h W' hW); injection (Option.some.inj (show some (Value.slice A7 x.f7.length c7) = some (Value.slice A7_ x.f7.length c7_) from congrArg (fun l => l[7]?) he)) with ha_ _ _; rw [ha_]; exact g7_), l8, (fun W' hW => by obtain ⟨A7_, c7_, A8_, c8_, he, l7_, g7_, l8_, g8_⟩ := k48_open (h W' hW); injection (Option.some.inj (show some (Value.slice A8 x.f8.length c8) = some (Value.slice A8_ x.f8.length c8_) from congrArg (fun l => l[8]?) he)) with ha_ _ _; rw [ha_]; exact g8_)⟩
theorem k48_mkF (W : World) (ok : Nat → Prop) (x : S48) {A7 : Option Addr} {c7 : Nat} (l7 : x.f7.length ≤ c7) (g7 : Kd.F k43 W ok A7 x.f7.length x.f7) {A8 : Option Addr} {c8 : Nat} (l8 : x.f8.length ≤ c8) (g8 : Kd.F k50 W ok A8 x.f8.length x.f8) : Kd.FK k48 W ok x [.int .i64 x.f0, .int .i64 x.f1, .int .i64 x.f2, .int .i64 x.f3, .int .i64 x.f4, .int .i64 x.f5, .bool x.f6, .slice A7 x.f7.length c7, .slice A8 x.f8.length c8] := fun W2 hW => k48_mk W2 x l7 (g7 W2 hW) l8 (g8 W2 hW)
def rd_T48 (xs : List S48) (i : Int) : S48 := xs.getD i.toNat z48
theorem at_T48 {w : World} {A : Option Addr} {n : Nat} {xs : List S48} (h : Kd.C k48 w A n xs) (i : Int) (h0 : 0 ≤ i) (h1 : i < n) : ∃ ad A7 c7 A8 c8, A = some ad ∧ w.cell? (ad.add (i.toNat * 9)) = some (.int .i64 (rd_T48 xs i).f0) ∧ w.cell? ⟨(ad.add (i.toNat * 9)).block, (ad.add (i.toNat * 9)).off + 1, none⟩ = some (.int .i64 (rd_T48 xs i).f1) ∧ w.cell? ⟨(ad.add (i.toNat * 9)).block, (ad.add (i.toNat * 9)).off + 2, none⟩ = some (.int .i64 (rd_T48 xs i).f2) ∧ w.cell? ⟨(ad.add (i.toNat * 9)).block, (ad.add (i.toNat * 9)).off + 3, none⟩ = some (.int .i64 (rd_T48 xs i).f3) ∧ w.cell? ⟨(ad.add (i.toNat * 9)).block, (ad.add (i.toNat * 9)).off + 4, none⟩ = some (.int .i64 (rd_T48 xs i).f4) ∧ w.cell? ⟨(ad.add (i.toNat * 9)).block, (ad.add (i.toNat * 9)).off + 5, none⟩ = some (.int .i64 (rd_T48 xs i).f5) ∧ w.cell? ⟨(ad.add (i.toNat * 9)).block, (ad.add (i.toNat * 9)).off + 6, none⟩ = some (.bool (rd_T48 xs i).f6) ∧ w.cell? ⟨(ad.add (i.toNat * 9)).block, (ad.add (i.toNat * 9)).off + 7, none⟩ = some (.slice A7 (rd_T48 xs i).f7.length c7) ∧ w.cell? ⟨(ad.add (i.toNat * 9)).block, (ad.add (i.toNat * 9)).off + 8, none⟩ = some (.slice A8 (rd_T48 xs i).f8.length c8) ∧ (rd_T48 xs i).f7.length ≤ c7 ∧ k43.C w A7 (rd_T48 xs i).f7.length (rd_T48 xs i).f7 ∧ (rd_T48 xs i).f8.length ≤ c8 ∧ k50.C w A8 (rd_T48 xs i).f8.length (rd_T48 xs i).f8 := by
  obtain ⟨ad, c, e, _, hK, hc0⟩ := Kd.C_get h z48 i h0 h1
  have hc : ∀ j u, c[j]? = some u → w.cell? (ad.add (i.toNat * 9 + j)) = some u := hc0
  obtain ⟨A7, c7, A8, c8, rfl, l7, g7, l8, g8⟩ := k48_open hK
  exact ⟨ad, A7, c7, A8, c8, e, hc 0 _ rfl, by rw [← add_field _ _ 1 (by omega)]; exact hc 1 _ rfl, by rw [← add_field _ _ 2 (by omega)]; exact hc 2 _ rfl, by rw [← add_field _ _ 3 (by omega)]; exact hc 3 _ rfl, by rw [← add_field _ _ 4 (by omega)]; exact hc 4 _ rfl, by rw [← add_field _ _ 5 (by omega)]; exact hc 5 _ rfl, by rw [← add_field _ _ 6 (by omega)]; exact hc 6 _ rfl, by rw [← add_field _ _ 7 (by omega)]; exact hc 7 _ rfl, by rw [← add_field _ _ 8 (by omega)]; exact hc 8 _ rfl, l7, g7, l8, g8⟩

end Go.Proofs.Ytdehdhkhcilckaa.PM
