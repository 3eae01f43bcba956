-- made by a program of this session (wip/tools/myprint.py over the kit's print) out of the translation; Lean checks it
import Derived.Test.YtjhfidafeeiogaaPM0
import Derived.Test.YtjhfidafeeiogaaPM2
import Derived.Test.YtjhfidafeeiogaaPM10
import Derived.Test.YtjhfidafeeiogaaPM12
import Derived.Test.YtjhfidafeeiogaaPM13
import Derived.Test.YtjhfidafeeiogaaPM15
import Derived.Test.YtjhfidafeeiogaaPM18
namespace Go.Proofs.Ytjhfidafeeiogaa.PM
open Go.RowKit Go.Proofs.YtjhfidafeeiogaaW.PrintWords Go.Proofs.YtjhfidafeeiogaaW.PrintLast Go.Proofs.YtjhfidafeeiogaaW.PrintMore
attribute [local go_sem] max2_int min2_int max_two min_two max_three min_three max_four min_four   -- for this text's walks alone
attribute [local go_sem high] Go.Proofs.Ytjhfidafeeiogaa.My.str_leq Go.Proofs.Ytjhfidafeeiogaa.My.str_gtr Go.Proofs.Ytjhfidafeeiogaa.My.str_geq
set_option linter.unusedVariables false
set_option linter.unusedSimpArgs false

/-! ### batonlaw15_TicketOrders: function 3 -/
def batonlaw15_TicketOrders.j0 : Nat → List (S39) → ByteArray → Bool → Option (Bool)
 | 0, _, _, _ => none
 | k + 1, x0, x1, x12 => if x12 = true then ((batonlaw15_live.f k).bind fun t279 => (some t279)) else ((ticket_Order.f x0).bind fun t280 => ((batonref15_Order.f k x0).bind fun t283 => ((batonref03_KVs.f k t280 t283).bind fun t286 => (if t286 = true then ((ticket_Place.f x0 x1).bind fun t287 => ((batonref15_Place.f k x0 x1).bind fun t288 => (if t287 = t288 then ((ticket_Ahead.f x0 x1).bind fun t289 => ((batonref15_Ahead.f k x0 x1).bind fun t292 => ((batonref03_KVs.f k t289 t292).bind fun t295 => (if t295 = true then ((batonlaw15_live.f k).bind fun t296 => (some t296)) else (none))))) else (none)))) else (none)))))
def batonlaw15_TicketOrders.f (k : Nat) (l0 : List (S39)) (a1 : ByteArray) : Option (Bool) := (batonref03_Few.f k l0 40).bind fun t278 => (if t278 = true then (batonlaw15_TicketOrders.j0 k l0 a1 (decide ((a1.size : Int) > 60))) else (batonlaw15_TicketOrders.j0 k l0 a1 true))
theorem batonlaw15_TicketOrders.mono_l : ∀ k, (∀ y0 y1 y2, LeO (batonlaw15_TicketOrders.j0 k y0 y1 y2) (batonlaw15_TicketOrders.j0 (k + 1) y0 y1 y2))
 | 0 => fun _ _ _ r h => by simp [batonlaw15_TicketOrders.j0] at h
 | k + 1 => by
  have ih0 := batonlaw15_TicketOrders.mono_l k
  ·intro y0 y1 y2
   unfold batonlaw15_TicketOrders.j0
   have ic0 := @batonlaw15_live.mono; have ic1 := @batonref03_Few.mono; have ic2 := @batonref03_KVs.mono; have ic3 := @batonref15_Ahead.mono; have ic4 := @batonref15_Order.mono; have ic5 := @batonref15_Place.mono; exact My.mono_
theorem batonlaw15_TicketOrders.mono : ∀ a0 a1 k, LeO (batonlaw15_TicketOrders.f k a0 a1) (batonlaw15_TicketOrders.f (k + 1) a0 a1) := by
 intro a0 a1 k
 have ih0 := batonlaw15_TicketOrders.mono_l k
 unfold batonlaw15_TicketOrders.f
 have ic0 := @batonlaw15_live.mono; have ic1 := @batonref03_Few.mono; have ic2 := @batonref03_KVs.mono; have ic3 := @batonref15_Ahead.mono; have ic4 := @batonref15_Order.mono; have ic5 := @batonref15_Place.mono; exact My.mono_
set_option maxHeartbeats 8000000 in
set_option maxRecDepth 100000 in
theorem batonlaw15_TicketOrders.calls (k : Nat) (A0 : Option Addr) (c0 : Nat) (l0 : List (S39)) (a1 : ByteArray) (r : Bool) (w : World) (hr0 : Kd.C k39 w A0 l0.length l0) (hc0 : l0.length ≤ c0) (h : batonlaw15_TicketOrders.f k l0 a1 = some r) :
  Calls Try.prog 3 #[.slice A0 l0.length c0, .string a1] w fun e w' => e = .returned (.bool r) ∧ Below w.heap.size w w' := by
 have HR0 := Aside0.mk hr0; have HC0 := Aside0.mk hc0; clear hr0 hc0; have HB := Aside0.mk (Below.refl w.heap.size w); have H : ((batonref03_Few.f k l0 40).bind fun t278 => (if t278 = true then (batonlaw15_TicketOrders.j0 k l0 a1 (decide ((a1.size : Int) > 60))) else (batonlaw15_TicketOrders.j0 k l0 a1 true))) = some r := h; clear h; have HC3 := Aside0.mk H; clear H
 go_enter Try.func3, Try.ntmps3
 go_upto_region 1 with (fail)
 go_cut [12] (fun v12 wc => ∃ (kq : Nat) (x12_2 : Bool), v12 = .bool x12_2 ∧ Aside0 (batonlaw15_TicketOrders.j0 kq l0 a1 x12_2 = some r) ∧ Aside0 (kq ≤ k) ∧ Aside0 (Below w.heap.size w wc))
 case first =>
  have H := HC3.out; clear HC3; replace H := Option.bind_eq_some_iff.mp H; obtain ⟨t278, A40, H⟩ := H; replace H : (if t278 = true then (batonlaw15_TicketOrders.j0 k l0 a1 (decide ((a1.size : Int) > 60))) else (batonlaw15_TicketOrders.j0 k l0 a1 true)) = some r := H; have A4 := Aside0.mk A40; clear A40
  by_cases c5 : t278 = true
  ·subst c5
   (have H1 : (batonlaw15_TicketOrders.j0 k l0 a1 (decide ((a1.size : Int) > 60))) = some r := by rw [if_pos rfl] at H; exact H); clear H; have H := H1; clear H1; have H' := Aside0.mk H; clear H
   go_wp2_with (first | ((with_reducible refine gate_callee (f := 9) rfl ?_); refine goesL_ (some 6) rfl rfl Try.func9 (by kernel_rfl) rfl #[.slice A0 l0.length c0, .int .i64 40] rfl My.ar ?_; (with_reducible refine (batonref03_Few.calls k _ _ l0 40 true _ ?side1 ?side2 A4.out).mono ?_); (case side1 => exact My.Ca (Kd.C_below HR0.out HB.out)); (case side2 => exact HC0.out); rintro e w' ⟨rfl, ⟨nd, rfl⟩⟩; refine ⟨_, rfl, ?_⟩))
   go_meet
   case rel => exact ⟨_, (decide ((a1.size : Int) > 60)), My.q0, H', ⟨by first | omega | exact Nat.le_refl _⟩, ⟨My.bB⟩⟩
  ·replace c5 := Bool.eq_false_iff.mpr c5
   subst c5; (have H1 : (batonlaw15_TicketOrders.j0 k l0 a1 true) = some r := by rw [if_neg (show ¬ (false = true) by decide)] at H; exact H); clear H; have H := H1; clear H1; have H' := Aside0.mk H; clear H
   go_wp2_with (first | ((with_reducible refine gate_callee (f := 9) rfl ?_); refine goesL_ (some 6) rfl rfl Try.func9 (by kernel_rfl) rfl #[.slice A0 l0.length c0, .int .i64 40] rfl My.ar ?_; (with_reducible refine (batonref03_Few.calls k _ _ l0 40 false _ ?side1 ?side2 A4.out).mono ?_); (case side1 => exact My.Ca (Kd.C_below HR0.out HB.out)); (case side2 => exact HC0.out); rintro e w' ⟨rfl, ⟨nd, rfl⟩⟩; refine ⟨_, rfl, ?_⟩))
   go_meet
   case rel => exact ⟨_, (true), My.q0, H', ⟨by first | omega | exact Nat.le_refl _⟩, ⟨My.bB⟩⟩
 case rest =>
  clear HC3; (try clear p2); (try clear c3); (try clear c5); obtain ⟨kq, x12_2, rfl, HA, HJ2, HB⟩ := hcut
  cases kq with
  | zero => exact absurd HA.out (by simp [batonlaw15_TicketOrders.j0])
  | succ kj2 =>
   have H := HA.out; clear HA; simp only [batonlaw15_TicketOrders.j0] at H
   by_cases c6 : x12_2 = true
   ·subst c6
    (have H1 : ((batonlaw15_live.f kj2).bind fun t279 => (some t279)) = some r := by rw [if_pos rfl] at H; exact H); clear H; have H := H1; clear H1; replace H := Option.bind_eq_some_iff.mp H; obtain ⟨t279, A70, H⟩ := H; replace H : (some t279) = some r := H; have A7 := Aside0.mk A70; clear A70; obtain rfl := Option.some.inj H
    go_wp2_with (first | ((with_reducible refine gate_callee (f := 10) rfl ?_); refine goesL_ (some 13) rfl rfl Try.func10 (by kernel_rfl) rfl #[] rfl My.ar ?_; (with_reducible refine (batonlaw15_live.calls kj2  t279 _ A7.out).mono ?_); rintro e w8 ⟨rfl, hb⟩; refine ⟨_, rfl, ?_⟩; have n0_ := Aside0.mk (below_step My.bB hb); clear HB; have HB := n0_; clear n0_))
    go_ret
    exact ⟨My.q1, My.bB⟩
   ·replace c6 := Bool.eq_false_iff.mpr c6
    subst c6; (have H1 : ((ticket_Order.f l0).bind fun t280 => ((batonref15_Order.f kj2 l0).bind fun t283 => ((batonref03_KVs.f kj2 t280 t283).bind fun t286 => (if t286 = true then ((ticket_Place.f l0 a1).bind fun t287 => ((batonref15_Place.f kj2 l0 a1).bind fun t288 => (if t287 = t288 then ((ticket_Ahead.f l0 a1).bind fun t289 => ((batonref15_Ahead.f kj2 l0 a1).bind fun t292 => ((batonref03_KVs.f kj2 t289 t292).bind fun t295 => (if t295 = true then ((batonlaw15_live.f kj2).bind fun t296 => (some t296)) else (none))))) else (none)))) else (none))))) = some r := by rw [if_neg (show ¬ (false = true) by decide)] at H; exact H); clear H; have H := H1; clear H1; replace H := Option.bind_eq_some_iff.mp H; obtain ⟨t280, A90, H⟩ := H; replace H : ((batonref15_Order.f kj2 l0).bind fun t283 => ((batonref03_KVs.f kj2 t280 t283).bind fun t286 => (if t286 = true then ((ticket_Place.f l0 a1).bind fun t287 => ((batonref15_Place.f kj2 l0 a1).bind fun t288 => (if t287 = t288 then ((ticket_Ahead.f l0 a1).bind fun t289 => ((batonref15_Ahead.f kj2 l0 a1).bind fun t292 => ((batonref03_KVs.f kj2 t289 t292).bind fun t295 => (if t295 = true then ((batonlaw15_live.f kj2).bind fun t296 => (some t296)) else (none))))) else (none)))) else (none)))) = some r := H; have A9 := Aside0.mk A90; clear A90; replace H := Option.bind_eq_some_iff.mp H; obtain ⟨t283, A100, H⟩ := H; replace H : ((batonref03_KVs.f kj2 t280 t283).bind fun t286 => (if t286 = true then ((ticket_Place.f l0 a1).bind fun t287 => ((batonref15_Place.f kj2 l0 a1).bind fun t288 => (if t287 = t288 then ((ticket_Ahead.f l0 a1).bind fun t289 => ((batonref15_Ahead.f kj2 l0 a1).bind fun t292 => ((batonref03_KVs.f kj2 t289 t292).bind fun t295 => (if t295 = true then ((batonlaw15_live.f kj2).bind fun t296 => (some t296)) else (none))))) else (none)))) else (none))) = some r := H; have A10 := Aside0.mk A100; clear A100; replace H := Option.bind_eq_some_iff.mp H; obtain ⟨t286, A110, H⟩ := H; replace H : (if t286 = true then ((ticket_Place.f l0 a1).bind fun t287 => ((batonref15_Place.f kj2 l0 a1).bind fun t288 => (if t287 = t288 then ((ticket_Ahead.f l0 a1).bind fun t289 => ((batonref15_Ahead.f kj2 l0 a1).bind fun t292 => ((batonref03_KVs.f kj2 t289 t292).bind fun t295 => (if t295 = true then ((batonlaw15_live.f kj2).bind fun t296 => (some t296)) else (none))))) else (none)))) else (none)) = some r := H; have A11 := Aside0.mk A110; clear A110
    by_cases c12 : t286 = true
    ·subst c12
     (have H1 : ((ticket_Place.f l0 a1).bind fun t287 => ((batonref15_Place.f kj2 l0 a1).bind fun t288 => (if t287 = t288 then ((ticket_Ahead.f l0 a1).bind fun t289 => ((batonref15_Ahead.f kj2 l0 a1).bind fun t292 => ((batonref03_KVs.f kj2 t289 t292).bind fun t295 => (if t295 = true then ((batonlaw15_live.f kj2).bind fun t296 => (some t296)) else (none))))) else (none)))) = some r := by rw [if_pos rfl] at H; exact H); clear H; have H := H1; clear H1; replace H := Option.bind_eq_some_iff.mp H; obtain ⟨t287, A130, H⟩ := H; replace H : ((batonref15_Place.f kj2 l0 a1).bind fun t288 => (if t287 = t288 then ((ticket_Ahead.f l0 a1).bind fun t289 => ((batonref15_Ahead.f kj2 l0 a1).bind fun t292 => ((batonref03_KVs.f kj2 t289 t292).bind fun t295 => (if t295 = true then ((batonlaw15_live.f kj2).bind fun t296 => (some t296)) else (none))))) else (none))) = some r := H; have A13 := Aside0.mk A130; clear A130; replace H := Option.bind_eq_some_iff.mp H; obtain ⟨t288, A140, H⟩ := H; replace H : (if t287 = t288 then ((ticket_Ahead.f l0 a1).bind fun t289 => ((batonref15_Ahead.f kj2 l0 a1).bind fun t292 => ((batonref03_KVs.f kj2 t289 t292).bind fun t295 => (if t295 = true then ((batonlaw15_live.f kj2).bind fun t296 => (some t296)) else (none))))) else (none)) = some r := H; have A14 := Aside0.mk A140; clear A140
     by_cases c15 : t287 = t288
     ·rw [if_pos c15] at H
      have c15b0 : (t287 == t288) = true := beq_iff_eq.mpr c15; have c15b1 : (t287 != t288) = false := bne_eq_false_iff_eq.mpr c15; clear c15; replace H := Option.bind_eq_some_iff.mp H; obtain ⟨t289, A160, H⟩ := H; replace H : ((batonref15_Ahead.f kj2 l0 a1).bind fun t292 => ((batonref03_KVs.f kj2 t289 t292).bind fun t295 => (if t295 = true then ((batonlaw15_live.f kj2).bind fun t296 => (some t296)) else (none)))) = some r := H; have A16 := Aside0.mk A160; clear A160; replace H := Option.bind_eq_some_iff.mp H; obtain ⟨t292, A170, H⟩ := H; replace H : ((batonref03_KVs.f kj2 t289 t292).bind fun t295 => (if t295 = true then ((batonlaw15_live.f kj2).bind fun t296 => (some t296)) else (none))) = some r := H; have A17 := Aside0.mk A170; clear A170; replace H := Option.bind_eq_some_iff.mp H; obtain ⟨t295, A180, H⟩ := H; replace H : (if t295 = true then ((batonlaw15_live.f kj2).bind fun t296 => (some t296)) else (none)) = some r := H; have A18 := Aside0.mk A180; clear A180
      by_cases c19 : t295 = true
      ·subst c19
       (have H1 : ((batonlaw15_live.f kj2).bind fun t296 => (some t296)) = some r := by rw [if_pos rfl] at H; exact H); clear H; have H := H1; clear H1; replace H := Option.bind_eq_some_iff.mp H; obtain ⟨t296, A200, H⟩ := H; replace H : (some t296) = some r := H; have A20 := Aside0.mk A200; clear A200; obtain rfl := Option.some.inj H
       go_wp2_with (first | ((with_reducible refine gate_callee (f := 12) rfl ?_); refine goesL_ (some 15) rfl rfl Try.func12 (by kernel_rfl) rfl #[.slice A0 l0.length c0] rfl My.ar ?_; (with_reducible refine (ticket_Order.calls _ _ l0 t280 _ ?side1 ?side2 A9.out).mono ?_); (case side1 => exact My.Ca (Kd.C_below HR0.out HB.out)); (case side2 => exact HC0.out); rintro e w21 ⟨v281, rfl, ho0, hb⟩; refine ⟨_, rfl, ?_⟩; have HO282 := Aside0.mk (Kd.R_lower ho0 (below_size My.bB)); replace HB := Aside0.mk (below_step My.bB hb); (try clear ho0)) | ((with_reducible refine gate_callee (f := 13) rfl ?_); refine goesL_ (some 17) rfl rfl Try.func13 (by kernel_rfl) rfl #[.slice A0 l0.length c0] rfl My.ar ?_; (with_reducible refine (batonref15_Order.calls kj2 _ _ l0 t283 _ ?side1 ?side2 A10.out).mono ?_); (case side1 => exact My.Ca (Kd.C_below HR0.out HB.out)); (case side2 => exact HC0.out); rintro e w22 ⟨v284, rfl, ho0, hb⟩; refine ⟨_, rfl, ?_⟩; have n0_ := Aside0.mk (Kd.R_elder' (My.Ra HO282.out) (Kd.R_base ho0) hb); have n1_ := Aside0.mk (Kd.R_lower (Kd.R_new' ho0 (Kd.R_lt (My.Ra HO282.out))) (below_size My.bB)); have n2_ := Aside0.mk (below_step My.bB hb); clear HO282; clear HB; have HO282 := n0_; have HO285 := n1_; have HB := n2_; clear n0_ n1_ n2_; (try clear ho0); obtain ⟨Ao23, co23, eo23⟩ := Kd.R_slice HO282.out; subst eo23; obtain ⟨Ao24, co24, eo24⟩ := Kd.R_slice HO285.out; subst eo24) | ((with_reducible refine gate_callee (f := 11) rfl ?_); refine goesL_ (some 18) rfl rfl Try.func11 (by kernel_rfl) rfl #[.slice Ao23 t280.length co23, .slice Ao24 t283.length co24] rfl My.ar ?_; (with_reducible refine (batonref03_KVs.calls kj2 _ _ t280 _ _ t283 true _ ?side1 ?side2 ?side3 ?side4 A11.out).mono ?_); (case side1 => repeat (first | exact (Kd.R_reads' HO282.out).2.2 | (with_reducible refine Kd.C_alloc ?_ _) | (with_reducible refine Kd.C_drewN ?_ _) | (with_reducible refine Kd.C_drew ?_))); (case side2 => exact (Kd.R_reads' HO282.out).2.1); (case side3 => repeat (first | exact (Kd.R_reads' HO285.out).2.2 | (with_reducible refine Kd.C_alloc ?_ _) | (with_reducible refine Kd.C_drewN ?_ _) | (with_reducible refine Kd.C_drew ?_))); (case side4 => exact (Kd.R_reads' HO285.out).2.1); rintro e w' ⟨rfl, ⟨nd, rfl⟩⟩; refine ⟨_, rfl, ?_⟩) | (go_at_call 14; (with_reducible refine (ticket_Place.calls _ _ l0 a1 t287 _ ?side1 ?side2 A13.out).mono ?_); (case side1 => exact My.Ca (Kd.C_below HR0.out My.bB)); (case side2 => exact HC0.out); rintro e w25 ⟨rfl, hb⟩; replace HO282 := Aside0.mk (Kd.R_below (My.Ra HO282.out) hb); replace HO285 := Aside0.mk (Kd.R_below (My.Ra HO285.out) hb); replace HB := Aside0.mk (below_step My.bB hb)) | (go_at_call 15; (with_reducible refine (batonref15_Place.calls kj2 _ _ l0 a1 t288 _ ?side1 ?side2 A14.out).mono ?_); (case side1 => exact My.Ca (Kd.C_below HR0.out HB.out)); (case side2 => exact HC0.out); rintro e w26 ⟨rfl, hb⟩; replace HO282 := Aside0.mk (Kd.R_below (My.Ra HO282.out) hb); replace HO285 := Aside0.mk (Kd.R_below (My.Ra HO285.out) hb); replace HB := Aside0.mk (below_step My.bB hb)) | (go_at_call 16; (with_reducible refine (ticket_Ahead.calls _ _ l0 a1 t289 _ ?side1 ?side2 A16.out).mono ?_); (case side1 => exact My.Ca (Kd.C_below HR0.out HB.out)); (case side2 => exact HC0.out); rintro e w27 ⟨v290, rfl, ho0, hb⟩; have n0_ := Aside0.mk (Kd.R_elder' (My.Ra HO282.out) (Kd.R_base ho0) hb); have n1_ := Aside0.mk (Kd.R_elder' (My.Ra HO285.out) (Kd.R_base ho0) hb); have n2_ := Aside0.mk (Kd.R_lower (Kd.R_new' (Kd.R_new' ho0 (Kd.R_lt (My.Ra HO282.out))) (Kd.R_lt (My.Ra HO285.out))) (below_size My.bB)); have n3_ := Aside0.mk (below_step My.bB hb); clear HO282; clear HO285; clear HB; have HO282 := n0_; have HO285 := n1_; have HO291 := n2_; have HB := n3_; clear n0_ n1_ n2_ n3_; (try clear ho0)) | (go_at_call 17; (with_reducible refine (batonref15_Ahead.calls kj2 _ _ l0 a1 t292 _ ?side1 ?side2 A17.out).mono ?_); (case side1 => exact My.Ca (Kd.C_below HR0.out HB.out)); (case side2 => exact HC0.out); rintro e w28 ⟨v293, rfl, ho0, hb⟩; have n0_ := Aside0.mk (Kd.R_elder' (My.Ra HO282.out) (Kd.R_base ho0) hb); have n1_ := Aside0.mk (Kd.R_elder' (My.Ra HO285.out) (Kd.R_base ho0) hb); have n2_ := Aside0.mk (Kd.R_elder' (My.Ra HO291.out) (Kd.R_base ho0) hb); have n3_ := Aside0.mk (Kd.R_lower (Kd.R_new' (Kd.R_new' (Kd.R_new' ho0 (Kd.R_lt (My.Ra HO282.out))) (Kd.R_lt (My.Ra HO285.out))) (Kd.R_lt (My.Ra HO291.out))) (below_size My.bB)); have n4_ := Aside0.mk (below_step My.bB hb); clear HO282; clear HO285; clear HO291; clear HB; have HO282 := n0_; have HO285 := n1_; have HO291 := n2_; have HO294 := n3_; have HB := n4_; clear n0_ n1_ n2_ n3_ n4_; (try clear ho0); obtain ⟨Ao29, co29, eo29⟩ := Kd.R_slice HO291.out; subst eo29; obtain ⟨Ao30, co30, eo30⟩ := Kd.R_slice HO294.out; subst eo30) | (go_at_call 11; (with_reducible refine (batonref03_KVs.calls kj2 _ _ t289 _ _ t292 true _ ?side1 ?side2 ?side3 ?side4 A18.out).mono ?_); (case side1 => repeat (first | exact (Kd.R_reads' HO291.out).2.2 | (with_reducible refine Kd.C_alloc ?_ _) | (with_reducible refine Kd.C_drewN ?_ _) | (with_reducible refine Kd.C_drew ?_))); (case side2 => exact (Kd.R_reads' HO291.out).2.1); (case side3 => repeat (first | exact (Kd.R_reads' HO294.out).2.2 | (with_reducible refine Kd.C_alloc ?_ _) | (with_reducible refine Kd.C_drewN ?_ _) | (with_reducible refine Kd.C_drew ?_))); (case side4 => exact (Kd.R_reads' HO294.out).2.1); rintro e w' ⟨rfl, ⟨nd, rfl⟩⟩) | (go_at_call 10; (with_reducible refine (batonlaw15_live.calls kj2  t296 _ A20.out).mono ?_); rintro e w31 ⟨rfl, hb⟩; replace HO282 := Aside0.mk (Kd.R_below (My.Ra HO282.out) hb); replace HO285 := Aside0.mk (Kd.R_below (My.Ra HO285.out) hb); replace HO291 := Aside0.mk (Kd.R_below (My.Ra HO291.out) hb); replace HO294 := Aside0.mk (Kd.R_below (My.Ra HO294.out) hb); replace HB := Aside0.mk (below_step My.bB hb)))
       go_ret
       exact ⟨My.q1, My.bB⟩
      ·replace c19 := Bool.eq_false_iff.mpr c19
       subst c19; (have H1 : (none) = some r := by rw [if_neg (show ¬ (false = true) by decide)] at H; exact H); clear H; have H := H1; clear H1; exact absurd H (by simp)
     ·exact My.no c15 H
    ·replace c12 := Bool.eq_false_iff.mpr c12
     subst c12; (have H1 : (none) = some r := by rw [if_neg (show ¬ (false = true) by decide)] at H; exact H); clear H; have H := H1; clear H1; exact absurd H (by simp)

/-! ### batonref15_Ready: function 19 -/
mutual
def batonref15_Ready.j0 : Nat → Int → List (S39) → Int → Bool → Option (Bool)
  | 0, _, _, _, _ => none
  | k + 1, x1, x9, x18, x19 => if x19 = true then (some ((x9.length : Int) == 0)) else (if x18 = 4 then (some (decide ((x9.length : Int) < x1))) else (if x18 = 2 then (batonref15_Ready.l0 k x9 0) else (some false)))
def batonref15_Ready.l0 : Nat → List (S39) → Int → Option (Bool)
  | 0, _, _ => none
  | k + 1, x9, x10 => if x10 < (x9.length : Int) then (if 0 ≤ x10 then (if ((rd_T39 x9 x10).f1).toList = ([119] : List UInt8) then (some false) else (batonref15_Ready.l0 k x9 (wrap64 (x10 + 1)))) else (none)) else (some true)
end
def batonref15_Ready.f (k : Nat) (a0 : Int) (a1 : Int) (l2 : List (S39)) (a3 : ByteArray) : Option (Bool) := (batonref15_Place.f k l2 a3).bind fun t297 => (if t297 < 0 then (some false) else ((batonref15_Ahead.f k l2 a3).bind fun t298 => (if a0 = 1 then (batonref15_Ready.j0 k a1 t298 a0 (a0 == 1)) else (if a0 = 3 then (batonref15_Ready.j0 k a1 t298 a0 (a0 == 3)) else (batonref15_Ready.j0 k a1 t298 a0 (a0 == 5))))))
theorem batonref15_Ready.mono_l : ∀ k, (∀ y0 y1 y2 y3, LeO (batonref15_Ready.j0 k y0 y1 y2 y3) (batonref15_Ready.j0 (k + 1) y0 y1 y2 y3)) ∧ (∀ y0 y1, LeO (batonref15_Ready.l0 k y0 y1) (batonref15_Ready.l0 (k + 1) y0 y1))
  | 0 => ⟨fun _ _ _ _ r h => by simp [batonref15_Ready.j0] at h, fun _ _ r h => by simp [batonref15_Ready.l0] at h⟩
  | k + 1 => by
    obtain ⟨ih0, ih1⟩ := batonref15_Ready.mono_l k
    refine ⟨?_, ?_⟩
    · intro y0 y1 y2 y3
      unfold batonref15_Ready.j0
      have ic0 := @batonref15_Ahead.mono; have ic1 := @batonref15_Place.mono; exact My.mono_
    · intro y0 y1
      unfold batonref15_Ready.l0
      have ic0 := @batonref15_Ahead.mono; have ic1 := @batonref15_Place.mono; exact My.mono_
theorem batonref15_Ready.mono : ∀ a0 a1 a2 a3 k, LeO (batonref15_Ready.f k a0 a1 a2 a3) (batonref15_Ready.f (k + 1) a0 a1 a2 a3) := by
  intro a0 a1 a2 a3 k
  obtain ⟨ih0, ih1⟩ := batonref15_Ready.mono_l k
  unfold batonref15_Ready.f
  have ic0 := @batonref15_Ahead.mono; have ic1 := @batonref15_Place.mono; exact My.mono_
set_option maxHeartbeats 8000000 in
set_option maxRecDepth 100000 in
theorem batonref15_Ready.calls (k : Nat) (a0 : Int) (a1 : Int) (A2 : Option Addr) (c2 : Nat) (l2 : List (S39)) (a3 : ByteArray) (r : Bool) (w : World) (hr2 : Kd.C k39 w A2 l2.length l2) (hc2 : l2.length ≤ c2) (h : batonref15_Ready.f k a0 a1 l2 a3 = some r) :
    Calls Try.prog 19 #[.int .i64 a0, .int .i64 a1, .slice A2 l2.length c2, .string a3] w fun e w' => e = .returned (.bool r) ∧ Below w.heap.size w w' := by
  have HR2 := Aside0.mk hr2; have HC2 := Aside0.mk hc2; clear hr2 hc2; have HB := Aside0.mk (Below.refl w.heap.size w); have H : ((batonref15_Place.f k l2 a3).bind fun t297 => (if t297 < 0 then (some false) else ((batonref15_Ahead.f k l2 a3).bind fun t298 => (if a0 = 1 then (batonref15_Ready.j0 k a1 t298 a0 (a0 == 1)) else (if a0 = 3 then (batonref15_Ready.j0 k a1 t298 a0 (a0 == 3)) else (batonref15_Ready.j0 k a1 t298 a0 (a0 == 5))))))) = some r := h; clear h; replace H := Option.bind_eq_some_iff.mp H; obtain ⟨t297, A50, H⟩ := H; replace H : (if t297 < 0 then (some false) else ((batonref15_Ahead.f k l2 a3).bind fun t298 => (if a0 = 1 then (batonref15_Ready.j0 k a1 t298 a0 (a0 == 1)) else (if a0 = 3 then (batonref15_Ready.j0 k a1 t298 a0 (a0 == 3)) else (batonref15_Ready.j0 k a1 t298 a0 (a0 == 5)))))) = some r := H; have A5 := Aside0.mk A50; clear A50
  by_cases c6 : t297 < 0
  · rw [if_pos c6] at H
    have c6b0 := decide_eq_true c6; clear c6; obtain rfl := Option.some.inj H
    go_enter Try.func19, Try.ntmps19
    go_wp2_with (first | ((with_reducible refine gate_callee (f := 15) rfl ?_); refine goesL_ (some 13) rfl rfl Try.func15 (by kernel_rfl) rfl #[.slice A2 l2.length c2, .string a3] rfl My.ar ?_; (with_reducible refine (batonref15_Place.calls k _ _ l2 a3 t297 _ ?side1 ?side2 A5.out).mono ?_); (case side1 => exact My.Ca HR2.out); (case side2 => exact HC2.out); rintro e w7 ⟨rfl, hb⟩; refine ⟨_, rfl, ?_⟩; have n0_ := Aside0.mk (below_step My.bB hb); clear HB; have HB := n0_; clear n0_; (try clear hb); (try clear hb2); (try clear hk); (try clear hi)))
    go_ret
    exact ⟨My.q1, My.bB⟩
  · rw [if_neg c6] at H
    have c6b0 := decide_eq_false c6; clear c6; replace H := Option.bind_eq_some_iff.mp H; obtain ⟨t298, A80, H⟩ := H; replace H : (if a0 = 1 then (batonref15_Ready.j0 k a1 t298 a0 (a0 == 1)) else (if a0 = 3 then (batonref15_Ready.j0 k a1 t298 a0 (a0 == 3)) else (batonref15_Ready.j0 k a1 t298 a0 (a0 == 5)))) = some r := H; have A8 := Aside0.mk A80; clear A80; have HC9 := Aside0.mk H; clear H
    go_enter Try.func19, Try.ntmps19
    go_upto_if 19 with (first | ((with_reducible refine gate_callee (f := 15) rfl ?_); refine goesL_ (some 13) rfl rfl Try.func15 (by kernel_rfl) rfl #[.slice A2 l2.length c2, .string a3] rfl My.ar ?_; (with_reducible refine (batonref15_Place.calls k _ _ l2 a3 t297 _ ?side1 ?side2 A5.out).mono ?_); (case side1 => exact My.Ca HR2.out); (case side2 => exact HC2.out); rintro e w10 ⟨rfl, hb⟩; refine ⟨_, rfl, ?_⟩; have n0_ := Aside0.mk (below_step My.bB hb); clear HB; have HB := n0_; clear n0_; (try clear hb); (try clear hb2); (try clear hk); (try clear hi)) | ((with_reducible refine gate_callee (f := 17) rfl ?_); refine goesL_ (some 17) rfl rfl Try.func17 (by kernel_rfl) rfl #[.slice A2 l2.length c2, .string a3] rfl My.ar ?_; (with_reducible refine (batonref15_Ahead.calls k _ _ l2 a3 t298 _ ?side1 ?side2 A8.out).mono ?_); (case side1 => exact My.Ca (Kd.C_below HR2.out HB.out)); (case side2 => exact HC2.out); rintro e w11 ⟨v299, rfl, ho0, hb⟩; refine ⟨_, rfl, ?_⟩; have HO300 := Aside0.mk (Kd.R_lower ho0 (below_size My.bB)); replace HB := Aside0.mk (below_step My.bB hb); (try clear hb); (try clear hb2); (try clear hk); (try clear hi); (try clear ho0)))
    (try simp only [Act.put, List.setIfInBounds_toArray, List.set_cons_zero, List.set_cons_succ])
    go_cut [19] (fun v19 wc => ∃ (kq : Nat) (x19_8 : Bool), v19 = .bool x19_8 ∧ Aside0 (batonref15_Ready.j0 kq a1 t298 a0 x19_8 = some r) ∧ Aside0 (kq ≤ k) ∧ Aside0 (Kd.R k39 39 wc w.heap.size (fun _ => True) v299 t298) ∧ Aside0 (Below w.heap.size w wc))
    case first =>
      have H := HC9.out; clear HC9
      by_cases c12 : a0 = 1
      · rw [if_pos c12] at H
        have c12b0 : (a0 == 1) = true := beq_iff_eq.mpr c12; have c12b1 : (a0 != 1) = false := bne_eq_false_iff_eq.mpr c12; clear c12; (first | rw [c12b0] | (simp only [i64_w, i32_w]; rw [c12b0]) | skip); have H' := Aside0.mk H; clear H
        go_wp2
        go_meet
        case rel => exact ⟨_, ((a0 == 1)), My.q0, H', ⟨by first | omega | exact Nat.le_refl _⟩, ⟨My.Ra HO300.out⟩, ⟨My.bB⟩⟩
      · rw [if_neg c12] at H
        have c12b0 : (a0 == 1) = false := beq_eq_false_iff_ne.mpr c12; have c12b1 : (a0 != 1) = true := bne_iff_ne.mpr c12; (first | rw [c12b0] | (simp only [i64_w, i32_w]; rw [c12b0]) | skip)
        by_cases c13 : a0 = 3
        · rw [if_pos c13] at H
          have c13b0 : (a0 == 3) = true := beq_iff_eq.mpr c13; have c13b1 : (a0 != 3) = false := bne_eq_false_iff_eq.mpr c13; clear c13; have H' := Aside0.mk H; clear H
          go_wp2
          go_meet
          case rel => exact ⟨_, ((a0 == 3)), My.q0, H', ⟨by first | omega | exact Nat.le_refl _⟩, ⟨My.Ra HO300.out⟩, ⟨My.bB⟩⟩
        · rw [if_neg c13] at H
          have c13b0 : (a0 == 3) = false := beq_eq_false_iff_ne.mpr c13; have c13b1 : (a0 != 3) = true := bne_iff_ne.mpr c13; have H' := Aside0.mk H; clear H
          go_wp2
          go_meet
          case rel => exact ⟨_, ((a0 == 5)), My.q0, H', ⟨by first | omega | exact Nat.le_refl _⟩, ⟨My.Ra HO300.out⟩, ⟨My.bB⟩⟩
    case rest =>
      clear HC9; (try clear c1); (try clear c2); (try clear p2); (try clear c6); (try clear c6b0); (try clear c12); (try clear c12b0); (try clear c12b1); (try clear c13); (try clear c13b0); (try clear c13b1); obtain ⟨kq, x19_8, rfl, HA, HJ8, HO_9, HB⟩ := hcut
      cases kq with
      | zero => exact absurd HA.out (by simp [batonref15_Ready.j0])
      | succ kj8 =>
        have H := HA.out; clear HA; simp only [batonref15_Ready.j0] at H
        by_cases c14 : x19_8 = true
        · subst c14
          (have H1 : (some ((t298.length : Int) == 0)) = some r := by rw [if_pos rfl] at H; exact H); clear H; have H := H1; clear H1; obtain rfl := Option.some.inj H; obtain ⟨Ao15, co15, eo15⟩ := Kd.R_slice HO_9.out; subst eo15
          go_wp2
          go_ret
          exact ⟨My.q1, My.bB⟩
        · replace c14 := Bool.eq_false_iff.mpr c14
          subst c14; (have H1 : (if a0 = 4 then (some (decide ((t298.length : Int) < a1))) else (if a0 = 2 then (batonref15_Ready.l0 kj8 t298 0) else (some false))) = some r := by rw [if_neg (show ¬ (false = true) by decide)] at H; exact H); clear H; have H := H1; clear H1
          by_cases c16 : a0 = 4
          · rw [if_pos c16] at H
            have c16b0 : (a0 == 4) = true := beq_iff_eq.mpr c16; have c16b1 : (a0 != 4) = false := bne_eq_false_iff_eq.mpr c16; clear c16; obtain rfl := Option.some.inj H; obtain ⟨Ao17, co17, eo17⟩ := Kd.R_slice HO_9.out; subst eo17
            go_wp2
            go_ret
            exact ⟨My.q1, My.bB⟩
          · rw [if_neg c16] at H
            have c16b0 : (a0 == 4) = false := beq_eq_false_iff_ne.mpr c16; have c16b1 : (a0 != 4) = true := bne_iff_ne.mpr c16
            by_cases c18 : a0 = 2
            · rw [if_pos c18] at H
              have c18b0 : (a0 == 2) = true := beq_iff_eq.mpr c18; have c18b1 : (a0 != 2) = false := bne_eq_false_iff_eq.mpr c18; clear c18; have H' := Aside0.mk H; clear H
              go_wp2
              go_loopg [10] kj8 (fun kq v10 w' => ∃ (x10_2 : Int), v10 = .int .i64 x10_2 ∧ Aside0 (batonref15_Ready.l0 kq t298 x10_2 = some r) ∧ Aside0 (kq ≤ kj8) ∧ Aside0 (Kd.R k39 39 w' w.heap.size (fun _ => True) v299 t298) ∧ Aside0 (Below w.heap.size w w'))
              case atStart => exact ⟨(0), My.q0, H', ⟨Nat.le_refl _⟩, ⟨My.Ra HO_9.out⟩, ⟨My.bB⟩⟩
              case round =>
                clear H'; (try clear c1); (try clear c2); (try clear p2); (try clear c6); (try clear c6b0); (try clear c12); (try clear c12b0); (try clear c12b1); (try clear c13); (try clear c13b0); (try clear c13b1); (try clear c14); (try clear c15); (try clear c16); (try clear c16b0); (try clear c16b1); (try clear c17); (try clear c18); (try clear c18b0); (try clear c18b1); (try clear p2); obtain ⟨x10_2, rfl, HA, HK2, HO_9, HB⟩ := hrel
                cases gk with
                | zero => exact absurd HA.out (by simp [batonref15_Ready.l0])
                | succ k2 =>
                  have H := HA.out; clear HA; simp only [batonref15_Ready.l0] at H
                  by_cases c19 : x10_2 < (t298.length : Int)
                  · rw [if_pos c19] at H
                    have c19b0 := decide_eq_true c19; clear c19
                    by_cases c20 : 0 ≤ x10_2
                    · rw [if_pos c20] at H
                      have c20b0 := decide_eq_true c20; clear c20
                      by_cases c21 : ((rd_T39 t298 x10_2).f1).toList = ([119] : List UInt8)
                      · rw [if_pos c21] at H
                        have c21b0 : (((rd_T39 t298 x10_2).f1).toList == ([119] : List UInt8)) = true := beq_iff_eq.mpr c21; have c21b1 : (((rd_T39 t298 x10_2).f1).toList != ([119] : List UInt8)) = false := bne_eq_false_iff_eq.mpr c21; clear c21; obtain rfl := Option.some.inj H; obtain ⟨Ao22, co22, eo22⟩ := Kd.R_slice HO_9.out; subst eo22; have p301 : 0 ≤ (x10_2 : Int) := of_decide_eq_true My.as; have q301 : x10_2 < (t298.length : Int) := of_decide_eq_true My.as; obtain ⟨ad301, e301, hx301_0, hx301_1, hx301_2, hx301_3, hx301_4, hx301_5⟩ := at_T39 (Kd.R_reads' HO_9.out).2.2 x10_2 p301 q301; cases e301; replace p301 := eq_true p301; replace q301 := eq_true q301
                        go_wp2
                        go_ret
                        exact ⟨My.q1, My.bB⟩
                      · rw [if_neg c21] at H
                        have c21b0 : (((rd_T39 t298 x10_2).f1).toList == ([119] : List UInt8)) = false := beq_eq_false_iff_ne.mpr c21; have c21b1 : (((rd_T39 t298 x10_2).f1).toList != ([119] : List UInt8)) = true := bne_iff_ne.mpr c21; have H' := Aside0.mk H; clear H; obtain ⟨Ao23, co23, eo23⟩ := Kd.R_slice HO_9.out; subst eo23; have p301 : 0 ≤ (x10_2 : Int) := of_decide_eq_true My.as; have q301 : x10_2 < (t298.length : Int) := of_decide_eq_true My.as; obtain ⟨ad301, e301, hx301_0, hx301_1, hx301_2, hx301_3, hx301_4, hx301_5⟩ := at_T39 (Kd.R_reads' HO_9.out).2.2 x10_2 p301 q301; cases e301; replace p301 := eq_true p301; replace q301 := eq_true q301
                        go_wp2
                        go_roundg k2
                        case measure => have := HJ8.out; have := HK2.out; omega
                        case rel => exact ⟨(wrap64 (x10_2 + 1)), My.q0, H', ⟨by have := HJ8.out; have := HK2.out; omega⟩, ⟨My.Ra HO_9.out⟩, ⟨My.bB⟩⟩
                    · exact My.no c20 H
                  · rw [if_neg c19] at H
                    have c19b0 := decide_eq_false c19; clear c19; obtain rfl := Option.some.inj H; obtain ⟨Ao24, co24, eo24⟩ := Kd.R_slice HO_9.out; subst eo24
                    go_wp2
                    go_ret
                    exact ⟨My.q1, My.bB⟩
            · rw [if_neg c18] at H
              have c18b0 : (a0 == 2) = false := beq_eq_false_iff_ne.mpr c18; have c18b1 : (a0 != 2) = true := bne_iff_ne.mpr c18; obtain rfl := Option.some.inj H
              go_wp2
              go_ret
              exact ⟨My.q1, My.bB⟩

/-! ### batonref15_Texts: function 20 -/
def batonref15_Texts.l0 : Nat → List ByteArray → List ByteArray → Int → Option (Bool)
  | 0, _, _, _ => none
  | k + 1, x0, x1, x5 => if x5 < (x0.length : Int) then (if 0 ≤ x5 then (if x5 < (x1.length : Int) then (if (rdOf ByteArray.empty x0 x5).toList = (rdOf ByteArray.empty x1 x5).toList then (batonref15_Texts.l0 k x0 x1 (wrap64 (x5 + 1))) else (some false)) else (none)) else (none)) else (some true)
def batonref15_Texts.f (k : Nat) (l0 : List ByteArray) (l1 : List ByteArray) : Option (Bool) := if (l0.length : Int) = (l1.length : Int) then (batonref15_Texts.l0 k l0 l1 0) else (some false)
theorem batonref15_Texts.mono_l : ∀ k, (∀ y0 y1 y2, LeO (batonref15_Texts.l0 k y0 y1 y2) (batonref15_Texts.l0 (k + 1) y0 y1 y2))
  | 0 => fun _ _ _ r h => by simp [batonref15_Texts.l0] at h
  | k + 1 => by
    have ih0 := batonref15_Texts.mono_l k
    · intro y0 y1 y2
      unfold batonref15_Texts.l0
      exact My.mono_
theorem batonref15_Texts.mono : ∀ a0 a1 k, LeO (batonref15_Texts.f k a0 a1) (batonref15_Texts.f (k + 1) a0 a1) := by
  intro a0 a1 k
  have ih0 := batonref15_Texts.mono_l k
  unfold batonref15_Texts.f
  exact My.mono_
set_option maxHeartbeats 8000000 in
set_option maxRecDepth 100000 in
theorem batonref15_Texts.calls (k : Nat) (A0 : Option Addr) (c0 : Nat) (l0 : List ByteArray) (A1 : Option Addr) (c1 : Nat) (l1 : List ByteArray) (r : Bool) (w : World) (hr0 : Kd.C Kd.string w A0 l0.length l0) (hc0 : l0.length ≤ c0) (hr1 : Kd.C Kd.string w A1 l1.length l1) (hc1 : l1.length ≤ c1) (h : batonref15_Texts.f k l0 l1 = some r) :
    Calls Try.prog 20 #[.slice A0 l0.length c0, .slice A1 l1.length c1] w fun e w' => e = .returned (.bool r) ∧ Drawn0 w w' := by
  have HR0 := Aside0.mk hr0; have HC0 := Aside0.mk hc0; clear hr0 hc0; have HR1 := Aside0.mk hr1; have HC1 := Aside0.mk hc1; clear hr1 hc1; have H : (if (l0.length : Int) = (l1.length : Int) then (batonref15_Texts.l0 k l0 l1 0) else (some false)) = some r := h; clear h
  by_cases c3 : (l0.length : Int) = (l1.length : Int)
  · rw [if_pos c3] at H
    have c3b0 : ((l0.length : Int) == (l1.length : Int)) = true := beq_iff_eq.mpr c3; have c3b1 : ((l0.length : Int) != (l1.length : Int)) = false := bne_eq_false_iff_eq.mpr c3; (have c3b2 : (l0.length == l1.length) = true := by first | simpa using c3 | (simp at c3 ⊢; omega)); clear c3; have H' := Aside0.mk H; clear H
    go_enter Try.func20, Try.ntmps20
    go_wp2
    repeat (go_quiet (fail); try go_wp2)
    go_loopg [5] k (fun kq v5 w' => ∃ (x5_1 : Int), v5 = .int .i64 x5_1 ∧ Aside0 (batonref15_Texts.l0 kq l0 l1 x5_1 = some r) ∧ Aside0 (kq ≤ k) ∧ Drawn0 w w')
    case atStart => exact ⟨(0), My.q0, H', ⟨Nat.le_refl _⟩, My.dD⟩
    case round =>
      clear H'; (try clear c1); (try clear c2); (try clear p2); (try clear c3); (try clear c3b0); (try clear c3b1); (try clear c3b2); obtain ⟨x5_1, rfl, HA, HK1, ⟨m1, rfl⟩⟩ := hrel
      cases gk with
      | zero => exact absurd HA.out (by simp [batonref15_Texts.l0])
      | succ k1 =>
        have H := HA.out; clear HA; simp only [batonref15_Texts.l0] at H
        by_cases c4 : x5_1 < (l0.length : Int)
        · rw [if_pos c4] at H
          have c4b0 := decide_eq_true c4; clear c4
          by_cases c5 : 0 ≤ x5_1
          · rw [if_pos c5] at H
            have c5b0 := decide_eq_true c5; clear c5
            by_cases c6 : x5_1 < (l1.length : Int)
            · rw [if_pos c6] at H
              have c6b0 := decide_eq_true c6; clear c6
              by_cases c7 : (rdOf ByteArray.empty l0 x5_1).toList = (rdOf ByteArray.empty l1 x5_1).toList
              · rw [if_pos c7] at H
                have c7b0 : ((rdOf ByteArray.empty l0 x5_1).toList == (rdOf ByteArray.empty l1 x5_1).toList) = true := beq_iff_eq.mpr c7; have c7b1 : ((rdOf ByteArray.empty l0 x5_1).toList != (rdOf ByteArray.empty l1 x5_1).toList) = false := bne_eq_false_iff_eq.mpr c7; clear c7; have H' := Aside0.mk H; clear H; have p302 : 0 ≤ (x5_1 : Int) := of_decide_eq_true My.as; have q302 : x5_1 < (l0.length : Int) := of_decide_eq_true My.as; obtain ⟨ad302, e302, hx302_0⟩ := Kd.at_string HR0.out x5_1 p302 q302; cases e302; replace p302 := eq_true p302; replace q302 := eq_true q302; have p303 : 0 ≤ (x5_1 : Int) := of_decide_eq_true My.as; have q303 : x5_1 < (l1.length : Int) := of_decide_eq_true My.as; obtain ⟨ad303, e303, hx303_0⟩ := Kd.at_string HR1.out x5_1 p303 q303; cases e303; replace p303 := eq_true p303; replace q303 := eq_true q303
                go_wp2
                repeat (go_quiet (fail); try go_wp2)
                go_roundg k1
                case measure => have := HK1.out; omega
                case rel => exact ⟨(wrap64 (x5_1 + 1)), My.q0, H', ⟨by have := HK1.out; omega⟩, My.dD⟩
              · rw [if_neg c7] at H
                have c7b0 : ((rdOf ByteArray.empty l0 x5_1).toList == (rdOf ByteArray.empty l1 x5_1).toList) = false := beq_eq_false_iff_ne.mpr c7; have c7b1 : ((rdOf ByteArray.empty l0 x5_1).toList != (rdOf ByteArray.empty l1 x5_1).toList) = true := bne_iff_ne.mpr c7; obtain rfl := Option.some.inj H; have p302 : 0 ≤ (x5_1 : Int) := of_decide_eq_true My.as; have q302 : x5_1 < (l0.length : Int) := of_decide_eq_true My.as; obtain ⟨ad302, e302, hx302_0⟩ := Kd.at_string HR0.out x5_1 p302 q302; cases e302; replace p302 := eq_true p302; replace q302 := eq_true q302; have p303 : 0 ≤ (x5_1 : Int) := of_decide_eq_true My.as; have q303 : x5_1 < (l1.length : Int) := of_decide_eq_true My.as; obtain ⟨ad303, e303, hx303_0⟩ := Kd.at_string HR1.out x5_1 p303 q303; cases e303; replace p303 := eq_true p303; replace q303 := eq_true q303
                go_wp2
                repeat (go_quiet (fail); try go_wp2)
                go_ret
                exact ⟨My.q0, My.dD⟩
            · exact My.no c6 H
          · exact My.no c5 H
        · rw [if_neg c4] at H
          have c4b0 := decide_eq_false c4; clear c4; obtain rfl := Option.some.inj H
          go_wp2
          repeat (go_quiet (fail); try go_wp2)
          go_ret
          exact ⟨My.q0, My.dD⟩
  · rw [if_neg c3] at H
    have c3b0 : ((l0.length : Int) == (l1.length : Int)) = false := beq_eq_false_iff_ne.mpr c3; have c3b1 : ((l0.length : Int) != (l1.length : Int)) = true := bne_iff_ne.mpr c3; (have c3b2 : (l0.length == l1.length) = false := by first | simpa using c3 | (simp at c3 ⊢; omega)); obtain rfl := Option.some.inj H
    go_enter Try.func20, Try.ntmps20
    go_wp2
    repeat (go_quiet (fail); try go_wp2)
    go_ret
    exact ⟨My.q0, My.dD⟩

/-! ### batonref15_In: function 38 -/
def batonref15_In.l0 : Nat → List ByteArray → ByteArray → Int → Option (Bool)
  | 0, _, _, _ => none
  | k + 1, x0, x1, x5 => if x5 < (x0.length : Int) then (if 0 ≤ x5 then (if (rdOf ByteArray.empty x0 x5).toList = x1.toList then (some true) else (batonref15_In.l0 k x0 x1 (wrap64 (x5 + 1)))) else (none)) else (some false)
def batonref15_In.f (k : Nat) (l0 : List ByteArray) (a1 : ByteArray) : Option (Bool) := batonref15_In.l0 k l0 a1 0
theorem batonref15_In.mono_l : ∀ k, (∀ y0 y1 y2, LeO (batonref15_In.l0 k y0 y1 y2) (batonref15_In.l0 (k + 1) y0 y1 y2))
  | 0 => fun _ _ _ r h => by simp [batonref15_In.l0] at h
  | k + 1 => by
    have ih0 := batonref15_In.mono_l k
    · intro y0 y1 y2
      unfold batonref15_In.l0
      exact My.mono_
theorem batonref15_In.mono : ∀ a0 a1 k, LeO (batonref15_In.f k a0 a1) (batonref15_In.f (k + 1) a0 a1) := by
  intro a0 a1 k
  have ih0 := batonref15_In.mono_l k
  unfold batonref15_In.f
  exact My.mono_
set_option maxHeartbeats 8000000 in
set_option maxRecDepth 100000 in
theorem batonref15_In.calls (k : Nat) (A0 : Option Addr) (c0 : Nat) (l0 : List ByteArray) (a1 : ByteArray) (r : Bool) (w : World) (hr0 : Kd.C Kd.string w A0 l0.length l0) (hc0 : l0.length ≤ c0) (h : batonref15_In.f k l0 a1 = some r) :
    Calls Try.prog 38 #[.slice A0 l0.length c0, .string a1] w fun e w' => e = .returned (.bool r) ∧ Drawn0 w w' := by
  have HR0 := Aside0.mk hr0; have HC0 := Aside0.mk hc0; clear hr0 hc0; have H : (batonref15_In.l0 k l0 a1 0) = some r := h; clear h; have H' := Aside0.mk H; clear H
  go_enter Try.func38, Try.ntmps38
  go_wp2
  go_loopg [5] k (fun kq v5 w' => ∃ (x5_1 : Int), v5 = .int .i64 x5_1 ∧ Aside0 (batonref15_In.l0 kq l0 a1 x5_1 = some r) ∧ Aside0 (kq ≤ k) ∧ Drawn0 w w')
  case atStart => exact ⟨(0), My.q0, H', ⟨Nat.le_refl _⟩, My.dD⟩
  case round =>
    clear H'; (try clear p2); obtain ⟨x5_1, rfl, HA, HK1, ⟨m1, rfl⟩⟩ := hrel
    cases gk with
    | zero => exact absurd HA.out (by simp [batonref15_In.l0])
    | succ k1 =>
      have H := HA.out; clear HA; simp only [batonref15_In.l0] at H
      by_cases c3 : x5_1 < (l0.length : Int)
      · rw [if_pos c3] at H
        have c3b0 := decide_eq_true c3; clear c3
        by_cases c4 : 0 ≤ x5_1
        · rw [if_pos c4] at H
          have c4b0 := decide_eq_true c4; clear c4
          by_cases c5 : (rdOf ByteArray.empty l0 x5_1).toList = a1.toList
          · rw [if_pos c5] at H
            have c5b0 : ((rdOf ByteArray.empty l0 x5_1).toList == a1.toList) = true := beq_iff_eq.mpr c5; have c5b1 : ((rdOf ByteArray.empty l0 x5_1).toList != a1.toList) = false := bne_eq_false_iff_eq.mpr c5; clear c5; obtain rfl := Option.some.inj H; have p304 : 0 ≤ (x5_1 : Int) := of_decide_eq_true My.as; have q304 : x5_1 < (l0.length : Int) := of_decide_eq_true My.as; obtain ⟨ad304, e304, hx304_0⟩ := Kd.at_string HR0.out x5_1 p304 q304; cases e304; replace p304 := eq_true p304; replace q304 := eq_true q304
            go_wp2
            go_ret
            exact ⟨My.q0, My.dD⟩
          · rw [if_neg c5] at H
            have c5b0 : ((rdOf ByteArray.empty l0 x5_1).toList == a1.toList) = false := beq_eq_false_iff_ne.mpr c5; have c5b1 : ((rdOf ByteArray.empty l0 x5_1).toList != a1.toList) = true := bne_iff_ne.mpr c5; have H' := Aside0.mk H; clear H; have p304 : 0 ≤ (x5_1 : Int) := of_decide_eq_true My.as; have q304 : x5_1 < (l0.length : Int) := of_decide_eq_true My.as; obtain ⟨ad304, e304, hx304_0⟩ := Kd.at_string HR0.out x5_1 p304 q304; cases e304; replace p304 := eq_true p304; replace q304 := eq_true q304
            go_wp2
            go_roundg k1
            case measure => have := HK1.out; omega
            case rel => exact ⟨(wrap64 (x5_1 + 1)), My.q0, H', ⟨by have := HK1.out; omega⟩, My.dD⟩
        · exact My.no c4 H
      · rw [if_neg c3] at H
        have c3b0 := decide_eq_false c3; clear c3; obtain rfl := Option.some.inj H
        go_wp2
        go_ret
        exact ⟨My.q0, My.dD⟩

/-! ### batonref15_Holders: function 22 -/
def batonref15_Holders.l0 : Nat → Int → Int → List (S39) → List (S39) → List ByteArray → Int → Option (List ByteArray)
 | 0, _, _, _, _, _, _ => none
 | k + 1, x0, x1, x2, x7, x8, x9 => if x9 < (x7.length : Int) then (if 0 ≤ x9 then ((batonref15_Ready.f k x0 x1 x2 ((rd_T39 x7 x9).f0)).bind fun t309 => (if t309 = true then ((batonref15_In.f k x8 ((rd_T39 x7 x9).f0)).bind fun t311 => (if t311 = true then (batonref15_Holders.l0 k x0 x1 x2 x7 x8 (wrap64 (x9 + 1))) else (if x8.length < 8796093022208 then (batonref15_Holders.l0 k x0 x1 x2 x7 (x8 ++ [(rd_T39 x7 x9).f0]) (wrap64 (x9 + 1))) else (none)))) else (batonref15_Holders.l0 k x0 x1 x2 x7 x8 (wrap64 (x9 + 1))))) else (none)) else (some x8)
def batonref15_Holders.f (k : Nat) (a0 : Int) (a1 : Int) (l2 : List (S39)) : Option (List ByteArray) := (batonref15_Order.f k l2).bind fun t305 => (batonref15_Holders.l0 k a0 a1 l2 t305 ([] : List ByteArray) 0)
theorem batonref15_Holders.mono_l : ∀ k, (∀ y0 y1 y2 y3 y4 y5, LeO (batonref15_Holders.l0 k y0 y1 y2 y3 y4 y5) (batonref15_Holders.l0 (k + 1) y0 y1 y2 y3 y4 y5))
 | 0 => fun _ _ _ _ _ _ r h => by simp [batonref15_Holders.l0] at h
 | k + 1 => by
  have ih0 := batonref15_Holders.mono_l k
  ·intro y0 y1 y2 y3 y4 y5
   unfold batonref15_Holders.l0
   have ic0 := @batonref15_In.mono; have ic1 := @batonref15_Order.mono; have ic2 := @batonref15_Ready.mono; exact My.mono_
theorem batonref15_Holders.mono : ∀ a0 a1 a2 k, LeO (batonref15_Holders.f k a0 a1 a2) (batonref15_Holders.f (k + 1) a0 a1 a2) := by
 intro a0 a1 a2 k
 have ih0 := batonref15_Holders.mono_l k
 unfold batonref15_Holders.f
 have ic0 := @batonref15_In.mono; have ic1 := @batonref15_Order.mono; have ic2 := @batonref15_Ready.mono; exact My.mono_
set_option maxHeartbeats 8000000 in
set_option maxRecDepth 100000 in
theorem batonref15_Holders.calls (k : Nat) (a0 : Int) (a1 : Int) (A2 : Option Addr) (c2 : Nat) (l2 : List (S39)) (r : List ByteArray) (w : World) (hr2 : Kd.C k39 w A2 l2.length l2) (hc2 : l2.length ≤ c2) (h : batonref15_Holders.f k a0 a1 l2 = some r) :
  Calls Try.prog 22 #[.int .i64 a0, .int .i64 a1, .slice A2 l2.length c2] w fun e w' => ∃ v0_ : Value, e = .returned (v0_) ∧ Kd.R Kd.string 9 w' w.heap.size (fun _ => True) v0_ r ∧ Below w.heap.size w w' := by
 have HR2 := Aside0.mk hr2; have HC2 := Aside0.mk hc2; clear hr2 hc2; have HB := Aside0.mk (Below.refl w.heap.size w); have H : ((batonref15_Order.f k l2).bind fun t305 => (batonref15_Holders.l0 k a0 a1 l2 t305 ([] : List ByteArray) 0)) = some r := h; clear h; replace H := Option.bind_eq_some_iff.mp H; obtain ⟨t305, A40, H⟩ := H; replace H : (batonref15_Holders.l0 k a0 a1 l2 t305 ([] : List ByteArray) 0) = some r := H; have A4 := Aside0.mk A40; clear A40; have H' := Aside0.mk H; clear H
 go_enter Try.func22, Try.ntmps22
 go_wp2_with (first | ((with_reducible refine gate_callee (f := 13) rfl ?_); refine goesL_ (some 11) rfl rfl Try.func13 (by kernel_rfl) rfl #[.slice A2 l2.length c2] rfl My.ar ?_; (with_reducible refine (batonref15_Order.calls k _ _ l2 t305 _ ?side1 ?side2 A4.out).mono ?_); (case side1 => exact My.Ca HR2.out); (case side2 => exact HC2.out); rintro e w5 ⟨v306, rfl, ho0, hb⟩; refine ⟨_, rfl, ?_⟩; have HO307 := Aside0.mk (Kd.R_lower ho0 (below_size My.bB)); replace HB := Aside0.mk (below_step My.bB hb); (try clear ho0)))
 go_loopg [8, 9] k (fun kq v8 v9 w' => ∃ (x8_1 : List ByteArray) (x9_1 : Int), v9 = .int .i64 x9_1 ∧ Aside0 (batonref15_Holders.l0 kq a0 a1 l2 t305 x8_1 x9_1 = some r) ∧ Aside0 (kq ≤ k) ∧ Aside0 (Kd.R k39 39 w' w.heap.size (fun _ => True) v306 t305) ∧ Aside0 (Kd.R Kd.string 9 w' w.heap.size (fun _ => True) v8 x8_1) ∧ Aside0 (Below w.heap.size w w'))
 case atStart => exact ⟨(([] : List ByteArray)), (0), My.q0, H', ⟨Nat.le_refl _⟩, ⟨My.Ra HO307.out⟩, ⟨by first | exact Kd.R_nil _ _ _ _ _ | exact Kd.N_nil _ _ _ _ _ | exact Kd.V_nil _ _ _ _ _ | exact Kd.Q_nil _ _ _ _ _ | exact Kd.S_nil _ _ _ _ _⟩, ⟨My.bB⟩⟩
 case round =>
  clear H'; (try clear c1); (try clear c2); (try clear p2); obtain ⟨x8_1, x9_1, rfl, HA, HK1, HO_7, HO_8, HB⟩ := hrel
  cases gk with
  | zero => exact absurd HA.out (by simp [batonref15_Holders.l0])
  | succ k1 =>
   have H := HA.out; clear HA; simp only [batonref15_Holders.l0] at H
   by_cases c6 : x9_1 < (t305.length : Int)
   ·rw [if_pos c6] at H
    have c6b0 := decide_eq_true c6; clear c6
    by_cases c7 : 0 ≤ x9_1
    ·rw [if_pos c7] at H
     have c7b0 := decide_eq_true c7; clear c7; replace H := Option.bind_eq_some_iff.mp H; obtain ⟨t309, A80, H⟩ := H; replace H : (if t309 = true then ((batonref15_In.f k1 x8_1 ((rd_T39 t305 x9_1).f0)).bind fun t311 => (if t311 = true then (batonref15_Holders.l0 k1 a0 a1 l2 t305 x8_1 (wrap64 (x9_1 + 1))) else (if x8_1.length < 8796093022208 then (batonref15_Holders.l0 k1 a0 a1 l2 t305 (x8_1 ++ [(rd_T39 t305 x9_1).f0]) (wrap64 (x9_1 + 1))) else (none)))) else (batonref15_Holders.l0 k1 a0 a1 l2 t305 x8_1 (wrap64 (x9_1 + 1)))) = some r := H; have A8 := Aside0.mk A80; clear A80
     by_cases c9 : t309 = true
     ·subst c9
      (have H1 : ((batonref15_In.f k1 x8_1 ((rd_T39 t305 x9_1).f0)).bind fun t311 => (if t311 = true then (batonref15_Holders.l0 k1 a0 a1 l2 t305 x8_1 (wrap64 (x9_1 + 1))) else (if x8_1.length < 8796093022208 then (batonref15_Holders.l0 k1 a0 a1 l2 t305 (x8_1 ++ [(rd_T39 t305 x9_1).f0]) (wrap64 (x9_1 + 1))) else (none)))) = some r := by rw [if_pos rfl] at H; exact H); clear H; have H := H1; clear H1; replace H := Option.bind_eq_some_iff.mp H; obtain ⟨t311, A100, H⟩ := H; replace H : (if t311 = true then (batonref15_Holders.l0 k1 a0 a1 l2 t305 x8_1 (wrap64 (x9_1 + 1))) else (if x8_1.length < 8796093022208 then (batonref15_Holders.l0 k1 a0 a1 l2 t305 (x8_1 ++ [(rd_T39 t305 x9_1).f0]) (wrap64 (x9_1 + 1))) else (none))) = some r := H; have A10 := Aside0.mk A100; clear A100
      by_cases c11 : t311 = true
      ·subst c11
       (have H1 : (batonref15_Holders.l0 k1 a0 a1 l2 t305 x8_1 (wrap64 (x9_1 + 1))) = some r := by rw [if_pos rfl] at H; exact H); clear H; have H := H1; clear H1; have H' := Aside0.mk H; clear H; obtain ⟨Ao12, co12, eo12⟩ := Kd.R_slice HO_7.out; subst eo12; have p308 : 0 ≤ (x9_1 : Int) := of_decide_eq_true My.as; have q308 : x9_1 < (t305.length : Int) := of_decide_eq_true My.as; obtain ⟨ad308, e308, hx308_0, hx308_1, hx308_2, hx308_3, hx308_4, hx308_5⟩ := at_T39 (Kd.R_reads' HO_7.out).2.2 x9_1 p308 q308; cases e308; replace p308 := eq_true p308; replace q308 := eq_true q308
       go_wp2_with (first | ((with_reducible refine gate_callee (f := 19) rfl ?_); refine goesL_ (some 26) rfl rfl Try.func19 (by kernel_rfl) rfl #[.int .i64 a0, .int .i64 a1, .slice A2 l2.length c2, .string ((rd_T39 t305 x9_1).f0)] rfl My.ar ?_; (with_reducible refine (batonref15_Ready.calls k1 a0 a1 _ _ l2 ((rd_T39 t305 x9_1).f0) true _ ?side1 ?side2 A8.out).mono ?_); (case side1 => exact My.Ca (Kd.C_below HR2.out HB.out)); (case side2 => exact HC2.out); rintro e w13 ⟨rfl, hb⟩; refine ⟨_, rfl, ?_⟩; replace HO_7 := Aside0.mk (Kd.R_below (My.Ra HO_7.out) hb); replace HO_8 := Aside0.mk (Kd.R_below (My.Ra HO_8.out) hb); replace HB := Aside0.mk (below_step My.bB hb); have p310 : 0 ≤ (x9_1 : Int) := of_decide_eq_true My.as; have q310 : x9_1 < (t305.length : Int) := of_decide_eq_true My.as; obtain ⟨ad310, e310, hx310_0, hx310_1, hx310_2, hx310_3, hx310_4, hx310_5⟩ := at_T39 (Kd.R_reads' HO_7.out).2.2 x9_1 p310 q310; obtain rfl : ad308 = ad310 := (by injection e310); replace p310 := eq_true p310; replace q310 := eq_true q310; obtain ⟨Ao14, co14, eo14⟩ := Kd.R_slice HO_8.out; subst eo14) | (go_at_call 38; (with_reducible refine (batonref15_In.calls k1 _ _ x8_1 ((rd_T39 t305 x9_1).f0) true _ ?side1 ?side2 A10.out).mono ?_); (case side1 => repeat (first | exact (Kd.R_reads' HO_8.out).2.2 | (with_reducible refine Kd.C_alloc ?_ _) | (with_reducible refine Kd.C_drewN ?_ _) | (with_reducible refine Kd.C_drew ?_))); (case side2 => exact (Kd.R_reads' HO_8.out).2.1); rintro e w' ⟨rfl, ⟨nd, rfl⟩⟩))
       go_roundg k1
       case measure => have := HK1.out; omega
       case rel => exact ⟨(x8_1), (wrap64 (x9_1 + 1)), My.q0, H', ⟨by have := HK1.out; omega⟩, ⟨My.Ra HO_7.out⟩, ⟨My.Ra HO_8.out⟩, ⟨My.bB⟩⟩
      ·replace c11 := Bool.eq_false_iff.mpr c11
       subst c11; (have H1 : (if x8_1.length < 8796093022208 then (batonref15_Holders.l0 k1 a0 a1 l2 t305 (x8_1 ++ [(rd_T39 t305 x9_1).f0]) (wrap64 (x9_1 + 1))) else (none)) = some r := by rw [if_neg (show ¬ (false = true) by decide)] at H; exact H); clear H; have H := H1; clear H1
       by_cases c15 : x8_1.length < 8796093022208
       ·rw [if_pos c15] at H
        have LMc15 := Aside0.mk c15; clear c15; obtain ⟨y313, hy313⟩ : ∃ y_ : List ByteArray, y_ = (x8_1 ++ [(rd_T39 t305 x9_1).f0]) := ⟨_, rfl⟩; (replace H : (batonref15_Holders.l0 k1 a0 a1 l2 t305 y313 (wrap64 (x9_1 + 1))) = some r := by first | (rw [hy313]; with_reducible exact H) | (have H2_ := (Option.bind_some _ _).symm.trans H; rw [hy313]; with_reducible exact H2_) | (have H2_ := (Option.bind_some _ _).symm.trans H; with_reducible exact H2_) | with_reducible exact H | (rw [hy313]; exact H) | exact H); have Ny313 := Aside0.mk hy313; clear hy313; have H' := Aside0.mk H; clear H; obtain ⟨Ao16, co16, eo16⟩ := Kd.R_slice HO_7.out; subst eo16; have p308 : 0 ≤ (x9_1 : Int) := of_decide_eq_true My.as; have q308 : x9_1 < (t305.length : Int) := of_decide_eq_true My.as; obtain ⟨ad308, e308, hx308_0, hx308_1, hx308_2, hx308_3, hx308_4, hx308_5⟩ := at_T39 (Kd.R_reads' HO_7.out).2.2 x9_1 p308 q308; cases e308; replace p308 := eq_true p308; replace q308 := eq_true q308
        go_wp2_with (first | ((with_reducible refine gate_callee (f := 19) rfl ?_); refine goesL_ (some 26) rfl rfl Try.func19 (by kernel_rfl) rfl #[.int .i64 a0, .int .i64 a1, .slice A2 l2.length c2, .string ((rd_T39 t305 x9_1).f0)] rfl My.ar ?_; (with_reducible refine (batonref15_Ready.calls k1 a0 a1 _ _ l2 ((rd_T39 t305 x9_1).f0) true _ ?side1 ?side2 A8.out).mono ?_); (case side1 => exact My.Ca (Kd.C_below HR2.out HB.out)); (case side2 => exact HC2.out); rintro e w17 ⟨rfl, hb⟩; refine ⟨_, rfl, ?_⟩; replace HO_7 := Aside0.mk (Kd.R_below (My.Ra HO_7.out) hb); replace HO_8 := Aside0.mk (Kd.R_below (My.Ra HO_8.out) hb); replace HB := Aside0.mk (below_step My.bB hb); have p310 : 0 ≤ (x9_1 : Int) := of_decide_eq_true My.as; have q310 : x9_1 < (t305.length : Int) := of_decide_eq_true My.as; obtain ⟨ad310, e310, hx310_0, hx310_1, hx310_2, hx310_3, hx310_4, hx310_5⟩ := at_T39 (Kd.R_reads' HO_7.out).2.2 x9_1 p310 q310; obtain rfl : ad308 = ad310 := (by injection e310); replace p310 := eq_true p310; replace q310 := eq_true q310; obtain ⟨Ao18, co18, eo18⟩ := Kd.R_slice HO_8.out; subst eo18) | (go_at_call 38; (with_reducible refine (batonref15_In.calls k1 _ _ x8_1 ((rd_T39 t305 x9_1).f0) false _ ?side1 ?side2 A10.out).mono ?_); (case side1 => repeat (first | exact (Kd.R_reads' HO_8.out).2.2 | (with_reducible refine Kd.C_alloc ?_ _) | (with_reducible refine Kd.C_drewN ?_ _) | (with_reducible refine Kd.C_drew ?_))); (case side2 => exact (Kd.R_reads' HO_8.out).2.1); rintro e w' ⟨rfl, ⟨nd, rfl⟩⟩; have p312 : 0 ≤ (x9_1 : Int) := of_decide_eq_true My.as; have q312 : x9_1 < (t305.length : Int) := of_decide_eq_true My.as; obtain ⟨ad312, e312, hx312_0, hx312_1, hx312_2, hx312_3, hx312_4, hx312_5⟩ := at_T39 (Kd.R_reads' HO_7.out).2.2 x9_1 p312 q312; obtain rfl : ad308 = ad312 := (by injection e312); replace p312 := eq_true p312; replace q312 := eq_true q312) | ((with_reducible refine gate_builtin (b := .append) (xs := #[.tmp 37, .tmp 43]) rfl ?_); at_builtin; refine Kd.R_append Kd.string (w0 := w) w.heap.size rfl (.tmp 37) (.tmp 43) 33 9 (.string ⟨#[]⟩) 16 rfl Try.underlying33 info9 rfl (by decide) (by omega) (.slice Ao18 x8_1.length co18) x8_1 ((rd_T39 t305 x9_1).f0) [.string ((rd_T39 t305 x9_1).f0)] (fun _ => True) (fun _ => False) rfl rfl ?aP (fun _ hk => hk.elim) ?aF ?aO ?aB ?aS ?aL ?_; (case aP => exact rfl); (case aB => exact My.bB); (case aF => exact (fun _ _ => trivial)); (case aO => exact (My.Ra HO_8.out)); (case aS => exact (below_size My.bB)); (case aL => have := LMc15.out; omega); intro v314 w19 ho hb hg hat; rw [← Ny313.out] at ho; replace HO_7 := Aside0.mk (Kd.R_over' (My.Ra HO_7.out) (Kd.R_typed (My.Ra HO_8.out)) (by decide) hg); replace HB := Aside0.mk (hb); have HO315 := Aside0.mk (ho); clear HO_8; clear ho hb hg hat))
        go_roundg k1
        case measure => have := HK1.out; omega
        case rel => exact ⟨(y313), (wrap64 (x9_1 + 1)), My.q0, H', ⟨by have := HK1.out; omega⟩, ⟨My.Ra HO_7.out⟩, ⟨My.Ra HO315.out⟩, ⟨My.bB⟩⟩
       ·exact My.no c15 H
     ·replace c9 := Bool.eq_false_iff.mpr c9
      subst c9; (have H1 : (batonref15_Holders.l0 k1 a0 a1 l2 t305 x8_1 (wrap64 (x9_1 + 1))) = some r := by rw [if_neg (show ¬ (false = true) by decide)] at H; exact H); clear H; have H := H1; clear H1; have H' := Aside0.mk H; clear H; obtain ⟨Ao20, co20, eo20⟩ := Kd.R_slice HO_7.out; subst eo20; have p308 : 0 ≤ (x9_1 : Int) := of_decide_eq_true My.as; have q308 : x9_1 < (t305.length : Int) := of_decide_eq_true My.as; obtain ⟨ad308, e308, hx308_0, hx308_1, hx308_2, hx308_3, hx308_4, hx308_5⟩ := at_T39 (Kd.R_reads' HO_7.out).2.2 x9_1 p308 q308; cases e308; replace p308 := eq_true p308; replace q308 := eq_true q308
      go_wp2_with (first | ((with_reducible refine gate_callee (f := 19) rfl ?_); refine goesL_ (some 26) rfl rfl Try.func19 (by kernel_rfl) rfl #[.int .i64 a0, .int .i64 a1, .slice A2 l2.length c2, .string ((rd_T39 t305 x9_1).f0)] rfl My.ar ?_; (with_reducible refine (batonref15_Ready.calls k1 a0 a1 _ _ l2 ((rd_T39 t305 x9_1).f0) false _ ?side1 ?side2 A8.out).mono ?_); (case side1 => exact My.Ca (Kd.C_below HR2.out HB.out)); (case side2 => exact HC2.out); rintro e w21 ⟨rfl, hb⟩; refine ⟨_, rfl, ?_⟩; replace HO_7 := Aside0.mk (Kd.R_below (My.Ra HO_7.out) hb); replace HO_8 := Aside0.mk (Kd.R_below (My.Ra HO_8.out) hb); replace HB := Aside0.mk (below_step My.bB hb)))
      go_roundg k1
      case measure => have := HK1.out; omega
      case rel => exact ⟨(x8_1), (wrap64 (x9_1 + 1)), My.q0, H', ⟨by have := HK1.out; omega⟩, ⟨My.Ra HO_7.out⟩, ⟨My.Ra HO_8.out⟩, ⟨My.bB⟩⟩
    ·exact My.no c7 H
   ·rw [if_neg c6] at H
    have c6b0 := decide_eq_false c6; clear c6; obtain rfl := Option.some.inj H; obtain ⟨Ao22, co22, eo22⟩ := Kd.R_slice HO_7.out; subst eo22
    go_wp2
    go_ret
    exact ⟨_, My.q1, My.Ra HO_8.out, My.bB⟩

/-! ### batonref15_Sign: function 24 -/
def batonref15_Sign.f (a0 : Int) : Option (ByteArray) := if a0 = 2 then (some (⟨#[114]⟩ : ByteArray)) else (if a0 = 3 then (some (⟨#[119]⟩ : ByteArray)) else (some (⟨#[]⟩ : ByteArray)))
set_option maxHeartbeats 8000000 in
set_option maxRecDepth 100000 in
theorem batonref15_Sign.calls (a0 : Int) (r : ByteArray) (w : World) (h : batonref15_Sign.f a0 = some r) :
    Calls Try.prog 24 #[.int .i64 a0] w fun e w' => e = .returned (.string r) ∧ Drawn0 w w' := by
  have H : (if a0 = 2 then (some (⟨#[114]⟩ : ByteArray)) else (if a0 = 3 then (some (⟨#[119]⟩ : ByteArray)) else (some (⟨#[]⟩ : ByteArray)))) = some r := h; clear h
  by_cases c2 : a0 = 2
  · rw [if_pos c2] at H
    have c2b0 : (a0 == 2) = true := beq_iff_eq.mpr c2; have c2b1 : (a0 != 2) = false := bne_eq_false_iff_eq.mpr c2; clear c2; obtain rfl := Option.some.inj H
    go_enter Try.func24, Try.ntmps24
    go_wp2
    go_ret
    exact ⟨My.q0, My.dD⟩
  · rw [if_neg c2] at H
    have c2b0 : (a0 == 2) = false := beq_eq_false_iff_ne.mpr c2; have c2b1 : (a0 != 2) = true := bne_iff_ne.mpr c2
    by_cases c3 : a0 = 3
    · rw [if_pos c3] at H
      have c3b0 : (a0 == 3) = true := beq_iff_eq.mpr c3; have c3b1 : (a0 != 3) = false := bne_eq_false_iff_eq.mpr c3; clear c3; obtain rfl := Option.some.inj H
      go_enter Try.func24, Try.ntmps24
      go_wp2
      go_ret
      exact ⟨My.q0, My.dD⟩
    · rw [if_neg c3] at H
      have c3b0 : (a0 == 3) = false := beq_eq_false_iff_ne.mpr c3; have c3b1 : (a0 != 3) = true := bne_iff_ne.mpr c3; obtain rfl := Option.some.inj H
      go_enter Try.func24, Try.ntmps24
      go_wp2
      go_ret
      exact ⟨My.q0, My.dD⟩

/-! ### batonlaw15_TicketTells: function 4 -/
def batonlaw15_TicketTells.j0 : Nat → List (S39) → ByteArray → Bool → Int → Int → Option (Bool)
 | 0, _, _, _, _, _ => none
 | k + 1, x1, x2, x14, x317000, x317001 => if x14 = true then ((batonlaw15_live.f k).bind fun t318 => (some t318)) else ((ticket_Ready.f k x317000 x317001 x1 x2).bind fun t319 => ((batonref15_Ready.f k x317000 x317001 x1 x2).bind fun t320 => (if (t319 == t320) = true then ((ticket_Holders.f k x317000 x317001 x1).bind fun t321 => ((batonref15_Holders.f k x317000 x317001 x1).bind fun t324 => ((batonref15_Texts.f k t321 t324).bind fun t327 => (if t327 = true then ((ticket_Sign.f x317000).bind fun t328 => ((batonref15_Sign.f x317000).bind fun t329 => (if t328.toList = t329.toList then ((batonlaw15_live.f k).bind fun t330 => (some t330)) else (none)))) else (none))))) else (none))))
def batonlaw15_TicketTells.f (k : Nat) (a0_0 : Int) (a0_1 : Int) (l1 : List (S39)) (a2 : ByteArray) : Option (Bool) := (batonref03_Few.f k l1 40).bind fun t317 => (if t317 = true then (batonlaw15_TicketTells.j0 k l1 a2 (decide ((a2.size : Int) > 60)) a0_0 a0_1) else (batonlaw15_TicketTells.j0 k l1 a2 true a0_0 a0_1))
theorem batonlaw15_TicketTells.mono_l : ∀ k, (∀ y0 y1 y2 y3 y4, LeO (batonlaw15_TicketTells.j0 k y0 y1 y2 y3 y4) (batonlaw15_TicketTells.j0 (k + 1) y0 y1 y2 y3 y4))
 | 0 => fun _ _ _ _ _ r h => by simp [batonlaw15_TicketTells.j0] at h
 | k + 1 => by
  have ih0 := batonlaw15_TicketTells.mono_l k
  ·intro y0 y1 y2 y3 y4
   unfold batonlaw15_TicketTells.j0
   have ic0 := @batonlaw15_live.mono; have ic1 := @batonref03_Few.mono; have ic2 := @batonref15_Holders.mono; have ic3 := @batonref15_Ready.mono; have ic4 := @batonref15_Texts.mono; have ic5 := @ticket_Holders.mono; have ic6 := @ticket_Ready.mono; exact My.mono_
theorem batonlaw15_TicketTells.mono : ∀ a0 a1 a2 a3 k, LeO (batonlaw15_TicketTells.f k a0 a1 a2 a3) (batonlaw15_TicketTells.f (k + 1) a0 a1 a2 a3) := by
 intro a0 a1 a2 a3 k
 have ih0 := batonlaw15_TicketTells.mono_l k
 unfold batonlaw15_TicketTells.f
 have ic0 := @batonlaw15_live.mono; have ic1 := @batonref03_Few.mono; have ic2 := @batonref15_Holders.mono; have ic3 := @batonref15_Ready.mono; have ic4 := @batonref15_Texts.mono; have ic5 := @ticket_Holders.mono; have ic6 := @ticket_Ready.mono; exact My.mono_
def batonlaw15_TicketTells.T3 : Bool × List (List Nat × List Nat) := (true, [([], []), ([0], [0]), ([], []), ([2], [2]), ([], []), ([], []), ([1, 3, 4, 5], [1, 3, 4, 5]), ([], []), ([7], [7]), ([], []), ([9], [9]), ([], []), ([], []), ([8, 10, 11, 12, 6], [8, 10, 11, 12]), ([6, 13], [6, 13]), ([14, 13], [14]), ([15], [15]), ([16, 15], [15, 16]), ([15], [15]), ([18, 15], [15, 18]), ([15], [15]), ([17, 19, 20, 15, 15], [15, 17, 19, 20]), ([15], [15]), ([22, 15], [15, 22]), ([15], [15]), ([24, 15], [15, 24]), ([15], [15]), ([23, 25, 26, 21, 15], [15, 23, 25, 26]), ([21, 27, 27, 15], [15, 21, 27]), ([15, 28], [15, 28]), ([29, 28], [29]), ([30], [30]), ([31, 30], [30, 31]), ([32, 30, 30], [30, 32]), ([30], [30]), ([34, 30], [30, 34]), ([35, 33, 30], [30, 35]), ([33, 36, 30], [30, 33, 36]), ([30, 37], [30, 37]), ([38, 36], [38]), ([39, 39], [39]), ([39, 40], [39, 40]), ([41, 40, 0, 1, 2, 3, 4, 5, 6, 7, 8, 9, 10, 11, 12, 13, 14, 15, 16, 17, 18, 19, 20, 21, 22, 23, 24, 25, 26, 27, 28, 29, 30, 31, 32, 33, 34, 35, 36, 37, 38, 39, 40, 41], [41])])
def batonlaw15_TicketTells.B3 : List Nat := [0, 1, 0, 4, 0, 0, 63, 0, 128, 0, 512, 0, 0, 8191, 16383, 32767, 65535, 131071, 65535, 327679, 65535, 2097151, 65535, 4259839, 65535, 16842751, 65535, 134217727, 268435455, 536870911, 1073741823, 2147483647, 4294967295, 8589934591, 2147483647, 19327352831, 68719476735, 137438953471, 274877906943, 549755813887, 1099511627775, 2199023255551, 4398046511103]
theorem batonlaw15_TicketTells.tab3 : rtab .any (opsOf Try.f4 3) = batonlaw15_TicketTells.T3 := by kernel_rfl
theorem batonlaw15_TicketTells.bits3 : waitsOk batonlaw15_TicketTells.T3.2 batonlaw15_TicketTells.B3 = true := by kernel_rfl
set_option maxHeartbeats 8000000 in
set_option maxRecDepth 100000 in
theorem batonlaw15_TicketTells.calls (k : Nat) (a0_0 : Int) (a0_1 : Int) (A1 : Option Addr) (c1 : Nat) (l1 : List (S39)) (a2 : ByteArray) (r : Bool) (w : World) (hr1 : Kd.C k39 w A1 l1.length l1) (hc1 : l1.length ≤ c1) (h : batonlaw15_TicketTells.f k a0_0 a0_1 l1 a2 = some r) :
  Calls Try.prog 4 #[.agg #[.int .i64 a0_0, .int .i64 a0_1], .slice A1 l1.length c1, .string a2] w fun e w' => e = .returned (.bool r) ∧ Below w.heap.size w w' := by
 have hu30 := Try.underlying30; have HR1 := Aside0.mk hr1; have HC1 := Aside0.mk hc1; clear hr1 hc1; have HB := Aside0.mk (Below.refl w.heap.size w); have H : ((batonref03_Few.f k l1 40).bind fun t317 => (if t317 = true then (batonlaw15_TicketTells.j0 k l1 a2 (decide ((a2.size : Int) > 60)) a0_0 a0_1) else (batonlaw15_TicketTells.j0 k l1 a2 true a0_0 a0_1))) = some r := h; clear h; have HC4 := Aside0.mk H; clear H
 go_enter Try.func4, Try.ntmps4
 go_upto_region 1 with (first | ((with_reducible refine gate_dst (N := 3) rfl ?_); (try (refine gate_guard (by rfl) ?_; dsimp only)); refine box_event ?hg (N := 3) ?hd (cs := #[.int .i64 a0_0, .int .i64 a0_1]) (t := 30) ?hr ?_; (case hd => rfl); (case hg => rfl); (case hr => first | (go_simp; done) | (go_simp; rfl)); intro gb316 hg w5 hbox hb; have n0_ := Aside0.mk (below_step My.bB hb); have n1_ := Aside0.mk (hbox); have n2_ := Aside0.mk ((by rw [hg]; exact (below_size My.bB) : w.heap.size ≤ gb316)); have n3_ := Aside0.mk ((by rw [hg]; exact (below_size My.bB) : w.heap.size ≤ gb316)); clear HB; have HB := n0_; have BK316 := n1_; have GW316 := n2_; have GE316 := n3_; clear n0_ n1_ n2_ n3_; clear hb hbox hg))
 (try simp only [Act.put, List.setIfInBounds_toArray, List.set_cons_zero, List.set_cons_succ])
 go_cut [14] (fun v14 wc => ∃ (kq : Nat) (x14_3 : Bool), v14 = .bool x14_3 ∧ Aside0 (batonlaw15_TicketTells.j0 kq l1 a2 x14_3 a0_0 a0_1 = some r) ∧ Aside0 (kq ≤ k) ∧ Aside0 (wc.heap[gb316]? = some (.cells #[.int .i64 a0_0, .int .i64 a0_1] 30 (0, 0))) ∧ Aside0 (Below w.heap.size w wc))
 case first =>
  have H := HC4.out; clear HC4; replace H := Option.bind_eq_some_iff.mp H; obtain ⟨t317, A60, H⟩ := H; replace H : (if t317 = true then (batonlaw15_TicketTells.j0 k l1 a2 (decide ((a2.size : Int) > 60)) a0_0 a0_1) else (batonlaw15_TicketTells.j0 k l1 a2 true a0_0 a0_1)) = some r := H; have A6 := Aside0.mk A60; clear A60
  by_cases c7 : t317 = true
  ·subst c7
   (have H1 : (batonlaw15_TicketTells.j0 k l1 a2 (decide ((a2.size : Int) > 60)) a0_0 a0_1) = some r := by rw [if_pos rfl] at H; exact H); clear H; have H := H1; clear H1; have H' := Aside0.mk H; clear H
   go_wp2_with (first | ((with_reducible refine gate_callee (f := 9) rfl ?_); refine goesL_ (some 8) rfl rfl Try.func9 (by kernel_rfl) rfl #[.slice A1 l1.length c1, .int .i64 40] rfl My.ar ?_; (with_reducible refine (batonref03_Few.calls k _ _ l1 40 true _ ?side1 ?side2 A6.out).mono ?_); (case side1 => exact My.Ca (Kd.C_below HR1.out HB.out)); (case side2 => exact HC1.out); rintro e w' ⟨rfl, ⟨nd, rfl⟩⟩; refine ⟨_, rfl, ?_⟩))
   go_meet
   case rel => exact ⟨_, (decide ((a2.size : Int) > 60)), My.q0, H', ⟨by first | omega | exact Nat.le_refl _⟩, ⟨by (with_reducible repeat (first | refine blk_drewN ?_ _ | refine blk_drew ?_ | refine blk_alloc ?_ _)); exact BK316.out⟩, ⟨(My.bG GE316.out)⟩⟩
  ·replace c7 := Bool.eq_false_iff.mpr c7
   subst c7; (have H1 : (batonlaw15_TicketTells.j0 k l1 a2 true a0_0 a0_1) = some r := by rw [if_neg (show ¬ (false = true) by decide)] at H; exact H); clear H; have H := H1; clear H1; have H' := Aside0.mk H; clear H
   go_wp2_with (first | ((with_reducible refine gate_callee (f := 9) rfl ?_); refine goesL_ (some 8) rfl rfl Try.func9 (by kernel_rfl) rfl #[.slice A1 l1.length c1, .int .i64 40] rfl My.ar ?_; (with_reducible refine (batonref03_Few.calls k _ _ l1 40 false _ ?side1 ?side2 A6.out).mono ?_); (case side1 => exact My.Ca (Kd.C_below HR1.out HB.out)); (case side2 => exact HC1.out); rintro e w' ⟨rfl, ⟨nd, rfl⟩⟩; refine ⟨_, rfl, ?_⟩))
   go_meet
   case rel => exact ⟨_, (true), My.q0, H', ⟨by first | omega | exact Nat.le_refl _⟩, ⟨by (with_reducible repeat (first | refine blk_drewN ?_ _ | refine blk_drew ?_ | refine blk_alloc ?_ _)); exact BK316.out⟩, ⟨(My.bG GE316.out)⟩⟩
 case rest =>
  clear HC4; (try clear c1); (try clear p2); (try clear c4); (try clear c7); obtain ⟨kq, x14_3, rfl, HA, HJ3, BK316, HB⟩ := hcut
  cases kq with
  | zero => exact absurd HA.out (by simp [batonlaw15_TicketTells.j0])
  | succ kj3 =>
   have H := HA.out; clear HA; simp only [batonlaw15_TicketTells.j0] at H
   by_cases c8 : x14_3 = true
   ·subst c8
    (have H1 : ((batonlaw15_live.f kj3).bind fun t318 => (some t318)) = some r := by rw [if_pos rfl] at H; exact H); clear H; have H := H1; clear H1; replace H := Option.bind_eq_some_iff.mp H; obtain ⟨t318, A90, H⟩ := H; replace H : (some t318) = some r := H; have A9 := Aside0.mk A90; clear A90; obtain rfl := Option.some.inj H
    go_wp2_with (first | ((with_reducible refine gate_callee (f := 10) rfl ?_); refine goesL_ (some 15) rfl rfl Try.func10 (by kernel_rfl) rfl #[] rfl My.ar ?_; (with_reducible refine (batonlaw15_live.calls kj3  t318 _ A9.out).mono ?_); rintro e w10 ⟨rfl, hb⟩; refine ⟨_, rfl, ?_⟩; replace BK316 := Aside0.mk (blk_below (g := gb316) (o := .cells #[.int .i64 a0_0, .int .i64 a0_1] 30 (0, 0)) (My.Ka BK316.out) hb); replace HB := Aside0.mk (below_step (My.bG GE316.out) hb)))
    go_ret
    exact ⟨My.q1, (My.bG GE316.out)⟩
   ·replace c8 := Bool.eq_false_iff.mpr c8
    subst c8; (have H1 : ((ticket_Ready.f kj3 a0_0 a0_1 l1 a2).bind fun t319 => ((batonref15_Ready.f kj3 a0_0 a0_1 l1 a2).bind fun t320 => (if (t319 == t320) = true then ((ticket_Holders.f kj3 a0_0 a0_1 l1).bind fun t321 => ((batonref15_Holders.f kj3 a0_0 a0_1 l1).bind fun t324 => ((batonref15_Texts.f kj3 t321 t324).bind fun t327 => (if t327 = true then ((ticket_Sign.f a0_0).bind fun t328 => ((batonref15_Sign.f a0_0).bind fun t329 => (if t328.toList = t329.toList then ((batonlaw15_live.f kj3).bind fun t330 => (some t330)) else (none)))) else (none))))) else (none)))) = some r := by rw [if_neg (show ¬ (false = true) by decide)] at H; exact H); clear H; have H := H1; clear H1; replace H := Option.bind_eq_some_iff.mp H; obtain ⟨t319, A110, H⟩ := H; replace H : ((batonref15_Ready.f kj3 a0_0 a0_1 l1 a2).bind fun t320 => (if (t319 == t320) = true then ((ticket_Holders.f kj3 a0_0 a0_1 l1).bind fun t321 => ((batonref15_Holders.f kj3 a0_0 a0_1 l1).bind fun t324 => ((batonref15_Texts.f kj3 t321 t324).bind fun t327 => (if t327 = true then ((ticket_Sign.f a0_0).bind fun t328 => ((batonref15_Sign.f a0_0).bind fun t329 => (if t328.toList = t329.toList then ((batonlaw15_live.f kj3).bind fun t330 => (some t330)) else (none)))) else (none))))) else (none))) = some r := H; have A11 := Aside0.mk A110; clear A110; replace H := Option.bind_eq_some_iff.mp H; obtain ⟨t320, A120, H⟩ := H; replace H : (if (t319 == t320) = true then ((ticket_Holders.f kj3 a0_0 a0_1 l1).bind fun t321 => ((batonref15_Holders.f kj3 a0_0 a0_1 l1).bind fun t324 => ((batonref15_Texts.f kj3 t321 t324).bind fun t327 => (if t327 = true then ((ticket_Sign.f a0_0).bind fun t328 => ((batonref15_Sign.f a0_0).bind fun t329 => (if t328.toList = t329.toList then ((batonlaw15_live.f kj3).bind fun t330 => (some t330)) else (none)))) else (none))))) else (none)) = some r := H; have A12 := Aside0.mk A120; clear A120
    by_cases c13 : (t319 == t320) = true
    ·rw [if_pos c13] at H
     have c13b0 : (t319 == t320) = true := c13; (try (have c13b1 : decide (t319 = t320) = true := by simpa using c13)); (try (have c13b2 : (t319 == t320) = true := by simpa using c13)); clear c13; replace H := Option.bind_eq_some_iff.mp H; obtain ⟨t321, A140, H⟩ := H; replace H : ((batonref15_Holders.f kj3 a0_0 a0_1 l1).bind fun t324 => ((batonref15_Texts.f kj3 t321 t324).bind fun t327 => (if t327 = true then ((ticket_Sign.f a0_0).bind fun t328 => ((batonref15_Sign.f a0_0).bind fun t329 => (if t328.toList = t329.toList then ((batonlaw15_live.f kj3).bind fun t330 => (some t330)) else (none)))) else (none)))) = some r := H; have A14 := Aside0.mk A140; clear A140; replace H := Option.bind_eq_some_iff.mp H; obtain ⟨t324, A150, H⟩ := H; replace H : ((batonref15_Texts.f kj3 t321 t324).bind fun t327 => (if t327 = true then ((ticket_Sign.f a0_0).bind fun t328 => ((batonref15_Sign.f a0_0).bind fun t329 => (if t328.toList = t329.toList then ((batonlaw15_live.f kj3).bind fun t330 => (some t330)) else (none)))) else (none))) = some r := H; have A15 := Aside0.mk A150; clear A150; replace H := Option.bind_eq_some_iff.mp H; obtain ⟨t327, A160, H⟩ := H; replace H : (if t327 = true then ((ticket_Sign.f a0_0).bind fun t328 => ((batonref15_Sign.f a0_0).bind fun t329 => (if t328.toList = t329.toList then ((batonlaw15_live.f kj3).bind fun t330 => (some t330)) else (none)))) else (none)) = some r := H; have A16 := Aside0.mk A160; clear A160
     by_cases c17 : t327 = true
     ·subst c17
      (have H1 : ((ticket_Sign.f a0_0).bind fun t328 => ((batonref15_Sign.f a0_0).bind fun t329 => (if t328.toList = t329.toList then ((batonlaw15_live.f kj3).bind fun t330 => (some t330)) else (none)))) = some r := by rw [if_pos rfl] at H; exact H); clear H; have H := H1; clear H1; replace H := Option.bind_eq_some_iff.mp H; obtain ⟨t328, A180, H⟩ := H; replace H : ((batonref15_Sign.f a0_0).bind fun t329 => (if t328.toList = t329.toList then ((batonlaw15_live.f kj3).bind fun t330 => (some t330)) else (none))) = some r := H; have A18 := Aside0.mk A180; clear A180; replace H := Option.bind_eq_some_iff.mp H; obtain ⟨t329, A190, H⟩ := H; replace H : (if t328.toList = t329.toList then ((batonlaw15_live.f kj3).bind fun t330 => (some t330)) else (none)) = some r := H; have A19 := Aside0.mk A190; clear A190
      by_cases c20 : t328.toList = t329.toList
      ·rw [if_pos c20] at H
       have c20b0 : (t328.toList == t329.toList) = true := beq_iff_eq.mpr c20; have c20b1 : (t328.toList != t329.toList) = false := bne_eq_false_iff_eq.mpr c20; clear c20; replace H := Option.bind_eq_some_iff.mp H; obtain ⟨t330, A210, H⟩ := H; replace H : (some t330) = some r := H; have A21 := Aside0.mk A210; clear A210; obtain rfl := Option.some.inj H; (try go_wp2); replace BK316 := Aside0.mk (blk_drew BK316.out); replace HB := Aside0.mk (below_drew1 HB.out); refine start_ (n := 43) (S := fun w' => w'.cell? ⟨gb316, 0, none⟩ = some (.int .i64 a0_0) ∧ w'.cell? ⟨gb316, 1, none⟩ = some (.int .i64 a0_1)) (ds := []) (My.bl 43 0) (by kernel_rfl) rfl (by kernel_rfl) ⟨(blk_cell BK316.out 0).trans rfl, (blk_cell BK316.out 1).trans rfl⟩ (fun hHeld => ?_); refine with_tabW batonlaw15_TicketTells.tab3 batonlaw15_TicketTells.bits3 (fun HT_ HW_ => ?_); generalize wc.drew = w22 at BK316 HB hHeld ⊢; refine My.pu 0 16 1 HT_ ?_; refine My.pu 2 18 5 HT_ ?_; refine My.pu 4 20 21 HT_ ?_; refine My.pu 5 21 53 HT_ ?_; refine My.pu 7 23 181 HT_ ?_; refine My.pu 9 25 693 HT_ ?_; refine My.pu 11 27 2741 HT_ ?_; refine My.pu 12 28 6837 HT_ ?_; refine My.tk 1 17 6839 HT_ HW_ hHeld ?_; refine My.tk 3 19 6847 HT_ HW_ hHeld ?_; refine My.tk 8 24 7103 HT_ HW_ hHeld ?_; refine My.tk 10 26 8127 HT_ HW_ hHeld ?_; refine one_ (i := 6) (N := some 22) (My.bl 43 8191) rfl rfl (one_of HT_.out (by kernel_rfl)) (by decide) (fun K hK => ?_); refine goes_ Try.func18 (by kernel_rfl) rfl #[.int .i64 a0_0, .int .i64 a0_1, .slice A1 l1.length c1, .string a2] (by rfl) rfl rfl My.ar ?_; (with_reducible refine (ticket_Ready.calls kj3 a0_0 a0_1 _ _ l1 a2 t319 _ ?side1 ?side2 A11.out).mono ?_)
       (case side1 => exact My.Ca (Kd.C_below HR1.out HB.out))
       (case side2 => exact HC1.out)
       rintro e w23 ⟨rfl, hb⟩; refine ⟨_, rfl, ?_⟩; replace BK316 := Aside0.mk (blk_below (g := gb316) (o := .cells #[.int .i64 a0_0, .int .i64 a0_1] 30 (0, 0)) (My.Ka BK316.out) hb); replace HB := Aside0.mk (below_step (My.bG GE316.out) hb); refine hK.out _ _ ⟨(blk_cell BK316.out 0).trans rfl, (blk_cell BK316.out 1).trans rfl⟩ (fun hHeld => ?_); clear hK K; refine norm_ (a' := ?_) ?_ ?_; rotate_left
       ·show Act.put _ (some 22) _ = _
        simp only [Act.put, List.setIfInBounds_toArray, List.set_cons_zero, List.set_cons_succ, i64_w, i32_w]; rfl
       refine one_ (i := 13) (N := some 29) (My.bl 43 16383) rfl rfl (one_of HT_.out (by kernel_rfl)) (by decide) (fun K hK => ?_); refine goes_ Try.func19 (by kernel_rfl) rfl #[.int .i64 a0_0, .int .i64 a0_1, .slice A1 l1.length c1, .string a2] (by rfl) rfl rfl My.ar ?_; (with_reducible refine (batonref15_Ready.calls kj3 a0_0 a0_1 _ _ l1 a2 t320 _ ?side1 ?side2 A12.out).mono ?_)
       (case side1 => exact My.Ca (Kd.C_below HR1.out HB.out))
       (case side2 => exact HC1.out)
       rintro e w24 ⟨rfl, hb⟩; refine ⟨_, rfl, ?_⟩; replace BK316 := Aside0.mk (blk_below (g := gb316) (o := .cells #[.int .i64 a0_0, .int .i64 a0_1] 30 (0, 0)) (My.Ka BK316.out) hb); replace HB := Aside0.mk (below_step (My.bG GE316.out) hb); refine hK.out _ _ ⟨(blk_cell BK316.out 0).trans rfl, (blk_cell BK316.out 1).trans rfl⟩ (fun hHeld => ?_); clear hK K; refine norm_ (a' := ?_) ?_ ?_; rotate_left
       ·show Act.put _ (some 29) _ = _
        simp only [Act.put, List.setIfInBounds_toArray, List.set_cons_zero, List.set_cons_succ, i64_w, i32_w]; rfl
       refine My.pu 14 30 32767 HT_ ?_; refine My.pu 15 31 65535 HT_ ?_; refine My.pu 16 32 131071 HT_ ?_; refine My.pu 18 34 393215 HT_ ?_; refine My.pu 20 36 1441791 HT_ ?_; refine My.pu 22 38 5636095 HT_ ?_; refine My.pu 24 40 22413311 HT_ ?_; refine My.pu 26 42 89522175 HT_ ?_; refine My.tk 17 33 89653247 HT_ HW_ hHeld ?_; refine My.tk 19 35 90177535 HT_ HW_ hHeld ?_; refine My.tk 23 39 98566143 HT_ HW_ hHeld ?_; refine My.tk 25 41 132120575 HT_ HW_ hHeld ?_; refine one_ (i := 21) (N := some 37) (My.bl 43 134217727) rfl rfl (one_of HT_.out (by kernel_rfl)) (by decide) (fun K hK => ?_); refine goes_ Try.func21 (by kernel_rfl) rfl #[.int .i64 a0_0, .int .i64 a0_1, .slice A1 l1.length c1] (by rfl) rfl rfl My.ar ?_; (with_reducible refine (ticket_Holders.calls kj3 a0_0 a0_1 _ _ l1 t321 _ ?side1 ?side2 A14.out).mono ?_)
       (case side1 => exact My.Ca (Kd.C_below HR1.out HB.out))
       (case side2 => exact HC1.out)
       rintro e w25 ⟨v322, rfl, ho0, hb⟩; refine ⟨_, rfl, ?_⟩; have HO323 := Aside0.mk (Kd.R_lower ho0 (below_size (My.bG GE316.out))); replace BK316 := Aside0.mk (blk_below (g := gb316) (o := .cells #[.int .i64 a0_0, .int .i64 a0_1] 30 (0, 0)) (My.Ka BK316.out) hb); replace HB := Aside0.mk (below_step (My.bG GE316.out) hb); (try clear ho0); refine hK.out _ _ ⟨(blk_cell BK316.out 0).trans rfl, (blk_cell BK316.out 1).trans rfl⟩ (fun hHeld => ?_); clear hK K; refine norm_ (a' := ?_) ?_ ?_; rotate_left
       ·show Act.put _ (some 37) _ = _
        simp only [Act.put, List.setIfInBounds_toArray, List.set_cons_zero, List.set_cons_succ, i64_w, i32_w]; rfl
       refine one_ (i := 27) (N := some 43) (My.bl 43 268435455) rfl rfl (one_of HT_.out (by kernel_rfl)) (by decide) (fun K hK => ?_); refine goes_ Try.func22 (by kernel_rfl) rfl #[.int .i64 a0_0, .int .i64 a0_1, .slice A1 l1.length c1] (by rfl) rfl rfl My.ar ?_; (with_reducible refine (batonref15_Holders.calls kj3 a0_0 a0_1 _ _ l1 t324 _ ?side1 ?side2 A15.out).mono ?_)
       (case side1 => exact My.Ca (Kd.C_below HR1.out HB.out))
       (case side2 => exact HC1.out)
       rintro e w26 ⟨v325, rfl, ho0, hb⟩; refine ⟨_, rfl, ?_⟩; have n0_ := Aside0.mk (Kd.R_elder' (My.Ra HO323.out) (Kd.R_base ho0) hb); have n1_ := Aside0.mk (Kd.R_lower (Kd.R_new' ho0 (Kd.R_lt (My.Ra HO323.out))) (below_size (My.bG GE316.out))); have n2_ := Aside0.mk (blk_below (g := gb316) (o := .cells #[.int .i64 a0_0, .int .i64 a0_1] 30 (0, 0)) (My.Ka BK316.out) hb); have n3_ := Aside0.mk (below_step (My.bG GE316.out) hb); clear HO323; clear BK316; clear HB; have HO323 := n0_; have HO326 := n1_; have BK316 := n2_; have HB := n3_; clear n0_ n1_ n2_ n3_; (try clear ho0); obtain ⟨Ao27, co27, eo27⟩ := Kd.R_slice HO323.out; (first | subst eo27 | (injection eo27 with f1_ f2_ f3_; have f4_ := f1_.symm; have f5_ := f3_.symm; clear f1_ f2_ f3_; subst f4_; subst f5_)); obtain ⟨Ao28, co28, eo28⟩ := Kd.R_slice HO326.out; (first | subst eo28 | (injection eo28 with f1_ f2_ f3_; have f4_ := f1_.symm; have f5_ := f3_.symm; clear f1_ f2_ f3_; subst f4_; subst f5_)); refine hK.out _ _ ⟨(blk_cell BK316.out 0).trans rfl, (blk_cell BK316.out 1).trans rfl⟩ (fun hHeld => ?_); clear hK K; refine norm_ (a' := ?_) ?_ ?_; rotate_left
       ·show Act.put _ (some 43) _ = _
        simp only [Act.put, List.setIfInBounds_toArray, List.set_cons_zero, List.set_cons_succ, i64_w, i32_w]; rfl
       refine one_ (i := 28) (N := some 44) (My.bl 43 536870911) rfl rfl (one_of HT_.out (by kernel_rfl)) (by decide) (fun K hK => ?_); refine goes_ Try.func20 (by kernel_rfl) rfl #[.slice Ao27 t321.length co27, .slice Ao28 t324.length co28] (by rfl) rfl rfl My.ar ?_; (with_reducible refine (batonref15_Texts.calls kj3 _ _ t321 _ _ t324 true _ ?side1 ?side2 ?side3 ?side4 A16.out).mono ?_)
       (case side1 => repeat (first | exact (Kd.R_reads' HO323.out).2.2 | (with_reducible refine Kd.C_alloc ?_ _) | (with_reducible refine Kd.C_drewN ?_ _) | (with_reducible refine Kd.C_drew ?_)))
       (case side2 => exact (Kd.R_reads' HO323.out).2.1)
       (case side3 => repeat (first | exact (Kd.R_reads' HO326.out).2.2 | (with_reducible refine Kd.C_alloc ?_ _) | (with_reducible refine Kd.C_drewN ?_ _) | (with_reducible refine Kd.C_drew ?_)))
       (case side4 => exact (Kd.R_reads' HO326.out).2.1)
       rintro e w' ⟨rfl, ⟨nd, rfl⟩⟩; refine ⟨_, rfl, ?_⟩; refine hK.out _ _ ⟨(blk_cell BK316.out 0).trans rfl, (blk_cell BK316.out 1).trans rfl⟩ (fun hHeld => ?_); clear hK K; refine norm_ (a' := ?_) ?_ ?_; rotate_left
       ·show Act.put _ (some 44) _ = _
        simp only [Act.put, List.setIfInBounds_toArray, List.set_cons_zero, List.set_cons_succ, i64_w, i32_w]; rfl
       refine My.pu 29 45 1073741823 HT_ ?_; refine My.pu 30 46 2147483647 HT_ ?_; refine My.pu 31 47 4294967295 HT_ ?_; refine My.pu 34 50 21474836479 HT_ ?_; refine My.tk 32 48 25769803775 HT_ HW_ hHeld ?_; refine My.tk 35 51 60129542143 HT_ HW_ hHeld ?_; refine one_ (i := 33) (N := some 49) (My.bl 43 68719476735) rfl rfl (one_of HT_.out (by kernel_rfl)) (by decide) (fun K hK => ?_); refine goes_ Try.func23 (by kernel_rfl) rfl #[.int .i64 a0_0] (by rfl) rfl rfl My.ar ?_; (with_reducible refine (ticket_Sign.calls a0_0 t328 _ A18.out).mono ?_); rintro e w' ⟨rfl, ⟨nd, rfl⟩⟩; refine ⟨_, rfl, ?_⟩; refine hK.out _ _ ⟨(blk_cell BK316.out 0).trans rfl, (blk_cell BK316.out 1).trans rfl⟩ (fun hHeld => ?_); clear hK K; refine norm_ (a' := ?_) ?_ ?_; rotate_left
       ·show Act.put _ (some 49) _ = _
        simp only [Act.put, List.setIfInBounds_toArray, List.set_cons_zero, List.set_cons_succ, i64_w, i32_w]; rfl
       refine one_ (i := 36) (N := some 52) (My.bl 43 137438953471) rfl rfl (one_of HT_.out (by kernel_rfl)) (by decide) (fun K hK => ?_); refine goes_ Try.func24 (by kernel_rfl) rfl #[.int .i64 a0_0] (by rfl) rfl rfl My.ar ?_; (with_reducible refine (batonref15_Sign.calls a0_0 t329 _ A19.out).mono ?_); rintro e w' ⟨rfl, ⟨nd, rfl⟩⟩; refine ⟨_, rfl, ?_⟩; refine hK.out _ _ ⟨(blk_cell BK316.out 0).trans rfl, (blk_cell BK316.out 1).trans rfl⟩ (fun hHeld => ?_); clear hK K; refine norm_ (a' := ?_) ?_ ?_; rotate_left
       ·show Act.put _ (some 52) _ = _
        simp only [Act.put, List.setIfInBounds_toArray, List.set_cons_zero, List.set_cons_succ, i64_w, i32_w]; rfl
       refine My.pu 37 53 274877906943 HT_ ?_; refine My.pu 38 54 549755813887 HT_ ?_; refine My.pu 39 55 1099511627775 HT_ ?_; refine one_ (i := 40) (N := some 56) (My.bl 43 2199023255551) rfl rfl (one_of HT_.out (by kernel_rfl)) (by decide) (fun K hK => ?_); refine goes_ Try.func10 (by kernel_rfl) rfl #[] (by rfl) rfl rfl My.ar ?_; (with_reducible refine (batonlaw15_live.calls kj3  t330 _ A21.out).mono ?_); rintro e w29 ⟨rfl, hb⟩; refine ⟨_, rfl, ?_⟩; replace HO323 := Aside0.mk (Kd.R_below (My.Ra HO323.out) hb); replace HO326 := Aside0.mk (Kd.R_below (My.Ra HO326.out) hb); replace BK316 := Aside0.mk (blk_below (g := gb316) (o := .cells #[.int .i64 a0_0, .int .i64 a0_1] 30 (0, 0)) (My.Ka BK316.out) hb); replace HB := Aside0.mk (below_step (My.bG GE316.out) hb); refine hK.out _ _ ⟨(blk_cell BK316.out 0).trans rfl, (blk_cell BK316.out 1).trans rfl⟩ (fun hHeld => ?_); clear hK K; refine norm_ (a' := ?_) ?_ ?_; rotate_left
       ·show Act.put _ (some 56) _ = _
        simp only [Act.put, List.setIfInBounds_toArray, List.set_cons_zero, List.set_cons_succ, i64_w, i32_w]; rfl
       refine My.pu 41 57 4398046511103 HT_ ?_; refine My.pu 42 6 8796093022207 HT_ ?_; refine done_ (done_of HT_.out (by kernel_rfl)) ?_; (try go_wp2)
       go_ret
       exact ⟨My.q1, (My.bG GE316.out)⟩
      ·rw [if_neg c20] at H
       have c20b0 : (t328.toList == t329.toList) = false := beq_eq_false_iff_ne.mpr c20; have c20b1 : (t328.toList != t329.toList) = true := bne_iff_ne.mpr c20; exact absurd H (by simp)
     ·replace c17 := Bool.eq_false_iff.mpr c17
      subst c17; (have H1 : (none) = some r := by rw [if_neg (show ¬ (false = true) by decide)] at H; exact H); clear H; have H := H1; clear H1; exact absurd H (by simp)
    ·rw [if_neg c13] at H
     (have c13b0 : (t319 == t320) = false := by simpa using c13); (try (have c13b1 : decide (t319 = t320) = false := by simpa using c13)); (try (have c13b2 : (t319 == t320) = false := by simpa using c13)); (try (have c13b3 : ¬ (t319 = t320) := by simpa using c13)); clear c13; exact absurd H (by simp)

/-! ### batonlaw15_unlike: function 25 -/
mutual
def batonlaw15_unlike.l0 : Nat → List (S39) → Int → Option (Bool)
  | 0, _, _ => none
  | k + 1, x0, x3 => if x3 < (x0.length : Int) then (batonlaw15_unlike.l1 k x0 x3 0) else (some true)
def batonlaw15_unlike.l1 : Nat → List (S39) → Int → Int → Option (Bool)
  | 0, _, _, _ => none
  | k + 1, x0, x3, x4 => if x4 < x3 then (if 0 ≤ x4 then (if x4 < (x0.length : Int) then (if 0 ≤ x3 then (if x3 < (x0.length : Int) then (if ((rd_T39 x0 x4).f0).toList = ((rd_T39 x0 x3).f0).toList then (some false) else (batonlaw15_unlike.l1 k x0 x3 (wrap64 (x4 + 1)))) else (none)) else (none)) else (none)) else (none)) else (batonlaw15_unlike.l0 k x0 (wrap64 (x3 + 1)))
end
def batonlaw15_unlike.f (k : Nat) (l0 : List (S39)) : Option (Bool) := batonlaw15_unlike.l0 k l0 0
theorem batonlaw15_unlike.mono_l : ∀ k, (∀ y0 y1, LeO (batonlaw15_unlike.l0 k y0 y1) (batonlaw15_unlike.l0 (k + 1) y0 y1)) ∧ (∀ y0 y1 y2, LeO (batonlaw15_unlike.l1 k y0 y1 y2) (batonlaw15_unlike.l1 (k + 1) y0 y1 y2))
  | 0 => ⟨fun _ _ r h => by simp [batonlaw15_unlike.l0] at h, fun _ _ _ r h => by simp [batonlaw15_unlike.l1] at h⟩
  | k + 1 => by
    obtain ⟨ih0, ih1⟩ := batonlaw15_unlike.mono_l k
    refine ⟨?_, ?_⟩
    · intro y0 y1
      unfold batonlaw15_unlike.l0
      exact My.mono_
    · intro y0 y1 y2
      unfold batonlaw15_unlike.l1
      exact My.mono_
theorem batonlaw15_unlike.mono : ∀ a0 k, LeO (batonlaw15_unlike.f k a0) (batonlaw15_unlike.f (k + 1) a0) := by
  intro a0 k
  obtain ⟨ih0, ih1⟩ := batonlaw15_unlike.mono_l k
  unfold batonlaw15_unlike.f
  exact My.mono_
set_option maxHeartbeats 8000000 in
set_option maxRecDepth 100000 in
theorem batonlaw15_unlike.calls (k : Nat) (A0 : Option Addr) (c0 : Nat) (l0 : List (S39)) (r : Bool) (w : World) (hr0 : Kd.C k39 w A0 l0.length l0) (hc0 : l0.length ≤ c0) (h : batonlaw15_unlike.f k l0 = some r) :
    Calls Try.prog 25 #[.slice A0 l0.length c0] w fun e w' => e = .returned (.bool r) ∧ Drawn0 w w' := by
  have HR0 := Aside0.mk hr0; have HC0 := Aside0.mk hc0; clear hr0 hc0; have H : (batonlaw15_unlike.l0 k l0 0) = some r := h; clear h; have H' := Aside0.mk H; clear H
  go_enter Try.func25, Try.ntmps25
  go_wp2
  repeat (go_quiet (fail); try go_wp2)
  go_loopg [3] k (fun kq v3 w' => ∃ (x3_1 : Int), v3 = .int .i64 x3_1 ∧ Aside0 (batonlaw15_unlike.l0 kq l0 x3_1 = some r) ∧ Aside0 (kq ≤ k) ∧ Drawn0 w w')
  case atStart => exact ⟨(0), My.q0, H', ⟨Nat.le_refl _⟩, My.dD⟩
  case round =>
    clear H'; obtain ⟨x3_1, rfl, HA, HK1, ⟨m1, rfl⟩⟩ := hrel
    cases gk with
    | zero => exact absurd HA.out (by simp [batonlaw15_unlike.l0])
    | succ k1 =>
      have H := HA.out; clear HA; simp only [batonlaw15_unlike.l0] at H
      by_cases c2 : x3_1 < (l0.length : Int)
      · rw [if_pos c2] at H
        have c2b0 := decide_eq_true c2; clear c2; have H' := Aside0.mk H; clear H
        go_wp2
        repeat (go_quiet (fail); try go_wp2)
        go_loopg [4] k1 (fun kq v4 w' => ∃ (x4_2 : Int), v4 = .int .i64 x4_2 ∧ Aside0 (batonlaw15_unlike.l1 kq l0 x3_1 x4_2 = some r) ∧ Aside0 (kq ≤ k1) ∧ Drawn0 w w')
        case atStart => exact ⟨(0), My.q0, H', ⟨Nat.le_refl _⟩, My.dD⟩
        case round =>
          clear H'; (try clear c2); (try clear c2b0); (try clear p2); obtain ⟨x4_2, rfl, HA, HK2, ⟨m2, rfl⟩⟩ := hrel
          cases gk with
          | zero => exact absurd HA.out (by simp [batonlaw15_unlike.l1])
          | succ k2 =>
            have H := HA.out; clear HA; simp only [batonlaw15_unlike.l1] at H
            by_cases c3 : x4_2 < x3_1
            · rw [if_pos c3] at H
              have c3b0 := decide_eq_true c3; clear c3
              by_cases c4 : 0 ≤ x4_2
              · rw [if_pos c4] at H
                have c4b0 := decide_eq_true c4; clear c4
                by_cases c5 : x4_2 < (l0.length : Int)
                · rw [if_pos c5] at H
                  have c5b0 := decide_eq_true c5; clear c5
                  by_cases c6 : 0 ≤ x3_1
                  · rw [if_pos c6] at H
                    have c6b0 := decide_eq_true c6; clear c6
                    by_cases c7 : x3_1 < (l0.length : Int)
                    · rw [if_pos c7] at H
                      have c7b0 := decide_eq_true c7; clear c7
                      by_cases c8 : ((rd_T39 l0 x4_2).f0).toList = ((rd_T39 l0 x3_1).f0).toList
                      · rw [if_pos c8] at H
                        have c8b0 : (((rd_T39 l0 x4_2).f0).toList == ((rd_T39 l0 x3_1).f0).toList) = true := beq_iff_eq.mpr c8; have c8b1 : (((rd_T39 l0 x4_2).f0).toList != ((rd_T39 l0 x3_1).f0).toList) = false := bne_eq_false_iff_eq.mpr c8; clear c8; obtain rfl := Option.some.inj H; have p331 : 0 ≤ (x4_2 : Int) := of_decide_eq_true My.as; have q331 : x4_2 < (l0.length : Int) := of_decide_eq_true My.as; obtain ⟨ad331, e331, hx331_0, hx331_1, hx331_2, hx331_3, hx331_4, hx331_5⟩ := at_T39 HR0.out x4_2 p331 q331; cases e331; replace p331 := eq_true p331; replace q331 := eq_true q331; have p332 : 0 ≤ (x3_1 : Int) := of_decide_eq_true My.as; have q332 : x3_1 < (l0.length : Int) := of_decide_eq_true My.as; obtain ⟨ad332, e332, hx332_0, hx332_1, hx332_2, hx332_3, hx332_4, hx332_5⟩ := at_T39 HR0.out x3_1 p332 q332; obtain rfl : ad331 = ad332 := (by injection e332); replace p332 := eq_true p332; replace q332 := eq_true q332
                        go_wp2
                        repeat (go_quiet (fail); try go_wp2)
                        go_ret
                        exact ⟨My.q0, My.dD⟩
                      · rw [if_neg c8] at H
                        have c8b0 : (((rd_T39 l0 x4_2).f0).toList == ((rd_T39 l0 x3_1).f0).toList) = false := beq_eq_false_iff_ne.mpr c8; have c8b1 : (((rd_T39 l0 x4_2).f0).toList != ((rd_T39 l0 x3_1).f0).toList) = true := bne_iff_ne.mpr c8; have H' := Aside0.mk H; clear H; have p331 : 0 ≤ (x4_2 : Int) := of_decide_eq_true My.as; have q331 : x4_2 < (l0.length : Int) := of_decide_eq_true My.as; obtain ⟨ad331, e331, hx331_0, hx331_1, hx331_2, hx331_3, hx331_4, hx331_5⟩ := at_T39 HR0.out x4_2 p331 q331; cases e331; replace p331 := eq_true p331; replace q331 := eq_true q331; have p332 : 0 ≤ (x3_1 : Int) := of_decide_eq_true My.as; have q332 : x3_1 < (l0.length : Int) := of_decide_eq_true My.as; obtain ⟨ad332, e332, hx332_0, hx332_1, hx332_2, hx332_3, hx332_4, hx332_5⟩ := at_T39 HR0.out x3_1 p332 q332; obtain rfl : ad331 = ad332 := (by injection e332); replace p332 := eq_true p332; replace q332 := eq_true q332
                        go_wp2
                        repeat (go_quiet (fail); try go_wp2)
                        go_roundg k2
                        case measure => have := HK1.out; have := HK2.out; omega
                        case rel => exact ⟨(wrap64 (x4_2 + 1)), My.q0, H', ⟨by have := HK1.out; have := HK2.out; omega⟩, My.dD⟩
                    · exact My.no c7 H
                  · exact My.no c6 H
                · exact My.no c5 H
              · exact My.no c4 H
            · rw [if_neg c3] at H
              have c3b0 := decide_eq_false c3; clear c3; have H' := Aside0.mk H; clear H
              go_wp2
              repeat (go_quiet (fail); try go_wp2)
              go_roundg k2
              case measure => have := HK1.out; have := HK2.out; omega
              case rel => exact ⟨(wrap64 (x3_1 + 1)), My.q0, H', ⟨by have := HK1.out; have := HK2.out; omega⟩, My.dD⟩
      · rw [if_neg c2] at H
        have c2b0 := decide_eq_false c2; clear c2; obtain rfl := Option.some.inj H
        go_wp2
        repeat (go_quiet (fail); try go_wp2)
        go_ret
        exact ⟨My.q0, My.dD⟩

end Go.Proofs.Ytjhfidafeeiogaa.PM
