/- By hand: party (see wip/by-hand). -/
import Derived.Test.YtdehdhkhcilckaaPM0
import Derived.Test.YtdehdhkhcilckaaPM12
import Derived.Test.YtdehdhkhcilckaaPM16
import Derived.Test.YtdehdhkhcilckaaPartyD
namespace Go.Proofs.Ytdehdhkhcilckaa.PM
open Go.RowKit Go.Proofs.YtdehdhkhcilckaaW.PrintWords Go.Proofs.YtdehdhkhcilckaaW.PrintLast Go.Proofs.YtdehdhkhcilckaaW.PrintMore
attribute [local go_sem] max2_int min2_int max_two min_two max_three min_three max_four min_four
attribute [local go_sem high] Go.Proofs.Ytdehdhkhcilckaa.My.str_leq Go.Proofs.Ytdehdhkhcilckaa.My.str_gtr Go.Proofs.Ytdehdhkhcilckaa.My.str_geq
set_option linter.unusedVariables false
set_option linter.unusedSimpArgs false
set_option maxHeartbeats 8000000 in
set_option maxRecDepth 100000 in
theorem left_ (k : Nat) (g : Nat) (s0 : Int) (s1 : ByteArray) (s2 : Int) (s3 s4 : ByteArray) (s5 s6 s7 s8 s9 : Int) (b0 b1 b2 b3 b4 b5 : Int) (b6 : Bool) (A7 : Option Addr) (c7 : Nat) (l7 : List S43) (A8 : Option Addr) (c8 : Nat) (l8 : List S50) (w0 w : World) (hI : w.heap[g]? = some (.cells #[.int .i64 s0, .string s1, .int .i64 s2, .string s3, .string s4, .int .i64 s5, .int .i64 s6, .int .i64 s7, .int .i64 s8, .int .i64 s9] 24 (0, 0))) (hG : w0.heap.size ≤ g) (hB : Below w0.heap.size w0 w) (hr7 : ∀ W_, KeepBut w W_ g none → Kd.C k43 W_ A7 l7.length l7) (hc7 : l7.length ≤ c7) (n : Int) (hn : party_Guests.f k l7 s1 = some n) : Calls Try.prog 46 #[.pointer (some ⟨g, 0, none⟩), .agg #[.int .i64 b0, .int .i64 b1, .int .i64 b2, .int .i64 b3, .int .i64 b4, .int .i64 b5, .bool b6, .slice A7 l7.length c7, .slice A8 l8.length c8]] w fun e w' => e = .returned (.tuple #[]) ∧ w'.heap[g]? = some (.cells #[.int .i64 s0, .string s1, .int .i64 s2, .string s3, .string s4, .int .i64 s5, .int .i64 (if n = 0 then 7 else s6), .int .i64 s7, .int .i64 s8, .int .i64 s9] 24 (0, 0)) ∧ Below w0.heap.size w0 w' ∧ KeepBut w w' g none := by
  have hu24 := Try.underlying24; have hu48 := Try.underlying48; have hu43 := Try.underlying43; have BM := Aside0.mk hI; have GM := Aside0.mk hG; have HB := Aside0.mk hB; have HK := My.m (KeepBut.refl w g none); clear hI hG hB; have HR7 := Aside0.mk hr7; have HC7 := Aside0.mk hc7; have HN := Aside0.mk hn; clear hr7 hc7 hn
  by_cases c : n = 0
  · have c1 : (n == 0) = true := beq_iff_eq.mpr c
    rw [if_pos c]; clear c
    go_enter Try.func46, Try.ntmps46
    go_wp2_with (first | ((with_reducible refine gate_dst (N := 3) rfl ?_); refine My.be 3 48 #[.int .i64 b0, .int .i64 b1, .int .i64 b2, .int .i64 b3, .int .i64 b4, .int .i64 b5, .bool b6, .slice A7 l7.length c7, .slice A8 l8.length c8] ?_; intro gp hg w1 hbox hb; have BP := My.m hbox; have NMP := My.m (My.nl hg BM); have NPM := My.m (My.nr hg BM); replace BM := My.m (My.kb BM.out hb); replace HK := My.m (KeepBut.trans HK.out (KeepBut.of_below hb g none) (.inl rfl)); replace HB := My.m (below_step My.bA hb); clear hb hbox hg; have hn1 := NMP.out; have hn2 := NPM.out; obtain ⟨_, _, _, _, _, _, _, _, _, _⟩ := My.qc10 BM.out; obtain ⟨_, _, _, _, _, _, _, _, _, _⟩ := My.qf10 BM.out; obtain ⟨_, _, _, _, _, _, _, _, _⟩ := My.qc9 BP.out; obtain ⟨_, _, _, _, _, _, _, _, _⟩ := My.qf9 BP.out))
    go_region_with (first | (go_at_call 11; (with_reducible refine (party_Guests.calls k A7 c7 l7 s1 n _ (HR7.out _ (by (with_reducible repeat (first | apply keep_drewN | apply keep_drew | apply keep_alloc)); exact HK.out)) HC7.out HN.out).mono ?_); rintro e w2 ⟨rfl, hb⟩; replace BM := My.m (My.kb BM.out hb); replace BP := My.m (My.kb BP.out hb); replace HK := My.m (KeepBut.trans (by (with_reducible repeat (first | apply keep_drewN | apply keep_drew | apply keep_alloc)); exact HK.out) (KeepBut.of_below hb g none) (.inl rfl)); replace HB := My.m (below_step My.bA hb); clear hb; obtain ⟨_, _, _, _, _, _, _, _, _, _⟩ := My.qc10 BM.out; obtain ⟨_, _, _, _, _, _, _, _, _, _⟩ := My.qf10 BM.out; obtain ⟨_, _, _, _, _, _, _, _, _⟩ := My.qc9 BP.out; obtain ⟨_, _, _, _, _, _, _, _, _⟩ := My.qf9 BP.out))
    all_goals
      go_wp2_with fail
      (first | go_end0 | ((try simp only [Exit.inBlock, Exit.then]); refine bodyPost_ret (results_none rfl _ _ _) rfl ?_))
      exact ⟨My.q1, blk_put BM.out 6 _ rfl, My.bA, KeepBut.set_ HK.out _ _⟩
  · have c1 : (n == 0) = false := beq_eq_false_iff_ne.mpr c
    rw [if_neg c]; clear c
    go_enter Try.func46, Try.ntmps46
    go_wp2_with (first | ((with_reducible refine gate_dst (N := 3) rfl ?_); refine My.be 3 48 #[.int .i64 b0, .int .i64 b1, .int .i64 b2, .int .i64 b3, .int .i64 b4, .int .i64 b5, .bool b6, .slice A7 l7.length c7, .slice A8 l8.length c8] ?_; intro gp hg w1 hbox hb; have BP := My.m hbox; have NMP := My.m (My.nl hg BM); have NPM := My.m (My.nr hg BM); replace BM := My.m (My.kb BM.out hb); replace HK := My.m (KeepBut.trans HK.out (KeepBut.of_below hb g none) (.inl rfl)); replace HB := My.m (below_step My.bA hb); clear hb hbox hg; have hn1 := NMP.out; have hn2 := NPM.out; obtain ⟨_, _, _, _, _, _, _, _, _, _⟩ := My.qc10 BM.out; obtain ⟨_, _, _, _, _, _, _, _, _, _⟩ := My.qf10 BM.out; obtain ⟨_, _, _, _, _, _, _, _, _⟩ := My.qc9 BP.out; obtain ⟨_, _, _, _, _, _, _, _, _⟩ := My.qf9 BP.out))
    go_region_with (first | (go_at_call 11; (with_reducible refine (party_Guests.calls k A7 c7 l7 s1 n _ (HR7.out _ (by (with_reducible repeat (first | apply keep_drewN | apply keep_drew | apply keep_alloc)); exact HK.out)) HC7.out HN.out).mono ?_); rintro e w2 ⟨rfl, hb⟩; replace BM := My.m (My.kb BM.out hb); replace BP := My.m (My.kb BP.out hb); replace HK := My.m (KeepBut.trans (by (with_reducible repeat (first | apply keep_drewN | apply keep_drew | apply keep_alloc)); exact HK.out) (KeepBut.of_below hb g none) (.inl rfl)); replace HB := My.m (below_step My.bA hb); clear hb; obtain ⟨_, _, _, _, _, _, _, _, _, _⟩ := My.qc10 BM.out; obtain ⟨_, _, _, _, _, _, _, _, _, _⟩ := My.qf10 BM.out; obtain ⟨_, _, _, _, _, _, _, _, _⟩ := My.qc9 BP.out; obtain ⟨_, _, _, _, _, _, _, _, _⟩ := My.qf9 BP.out))
    all_goals
      go_wp2_with fail
      (first | go_end0 | ((try simp only [Exit.inBlock, Exit.then]); refine bodyPost_ret (results_none rfl _ _ _) rfl ?_))
      exact ⟨My.q1, BM.out, My.bA, HK.out⟩
theorem wno.one (x : S50) (h : Nat) (w : World) (hx : x.f1 = false) : Calls Try.prog 54 #[.agg #[.int .i64 x.f0, .bool x.f1, .string x.f2.f0, .string x.f2.f1, .int .i64 x.f2.f2, .int .i64 x.f2.f3, .int .i64 x.f2.f4, .int .i64 x.f2.f5], .pointer (some ⟨h, 0, none⟩)] w fun e w' => e = .returned (.bool false) ∧ Below w.heap.size w w' := by
  have hu := Try.underlying50
  have hu2 := Try.underlying43
  have hu3 := Try.underlying24
  obtain ⟨x0, x1, x2, x3, x4, x5, x6, x7⟩ := x
  obtain rfl : x1 = false := hx
  go_enter Try.func54, Try.ntmps54
  go_wp2
  go_quiet (fail)
  (try go_wp2)
  go_ret
  exact ⟨rfl, pw_below_drewN (below_alloc (Below.refl _ _) _) _⟩
theorem wno.idx (A0 : Option Addr) (c0 : Nat) (l0 : List S50) (h : Nat) (w : World) (hr0 : Kd.C k50 w A0 l0.length l0) (hn : ∀ x ∈ l0, x.f1 = false) :
    Calls Try.prog 62 #[.slice A0 l0.length c0, .func (.func 54) #[] #[.pointer (some ⟨h, 0, none⟩)]] w fun e w' => e = .returned (.int .i64 (-1)) ∧ Below w.heap.size w w' := by
  have HR0 := Aside0.mk hr0
  have hmx : l0.length ≤ 9223372036854775807 := hr0.2.1
  have HN := Aside0.mk hn
  clear hr0 hn
  go_enter Try.func62, Try.ntmps62
  go_wp2_with fail
  go_loopw [8] (fun i wr => ∃ j : Nat, i = .int .i64 j ∧ Aside0 (j ≤ l0.length ∧ Below w.heap.size w wr)) (fun i _ => l0.length - (intOf i).toNat)
  case atStart => exact ⟨0, rfl, ⟨Nat.zero_le _, Below.refl _ _⟩⟩
  case round =>
    obtain ⟨j, rfl, ⟨hk, hbl⟩⟩ := hrel
    by_cases hlt : j < l0.length
    · obtain ⟨ad, rfl, h0, h1, h2, h3, h4, h5, h6, h7⟩ := at_T50 (Kd.C_below HR0.out hbl) (j : Int) (by omega) (by omega)
      have e1 : rd_T50 l0 (j : Int) = l0[j] := by simp [rd_T50, List.getElem?_eq_getElem hlt]
      rw [e1] at h0 h1 h2 h3 h4 h5 h6 h7
      simp only [Int.toNat_natCast] at h0 h1 h2 h3 h4 h5 h6 h7
      have HQ := Aside0.mk (HN.out l0[j] (List.getElem_mem hlt))
      clear e1
      generalize l0[j] = y at *
      have HB := Aside0.mk hbl
      have hz : (j : Int) < (l0.length : Int) := by omega
      clear hbl
      go_wp2_with (go_at_call 54; (with_reducible refine (wno.one y h _ HQ.out).mono ?_); rintro e w2 ⟨rfl, hb2⟩; have HB2 := Aside0.mk (below_step HB.out hb2); clear hb2)
      go_roundw
      case rel => exact ⟨j + 1, by go_num, ⟨by omega, HB2.out⟩⟩
      case measure => simp [intOf]; omega
    · have he : j = l0.length := by omega
      have hz : ¬ (j : Int) < (l0.length : Int) := by omega
      have HB := Aside0.mk hbl
      clear hbl he
      go_wp2
      go_ret
      exact ⟨rfl, HB.out⟩
theorem wno.any (A0 : Option Addr) (c0 : Nat) (l0 : List S50) (h : Nat) (w : World) (hr0 : Kd.C k50 w A0 l0.length l0) (hn : ∀ x ∈ l0, x.f1 = false) :
    Calls Try.prog 53 #[.slice A0 l0.length c0, .func (.func 54) #[] #[.pointer (some ⟨h, 0, none⟩)]] w fun e w' => e = .returned (.bool false) ∧ Below w.heap.size w w' := by
  have HR0 := Aside0.mk hr0
  have HN := Aside0.mk hn
  clear hr0 hn
  go_enter Try.func53, Try.ntmps53
  go_wp2_with (go_at_call 62; (with_reducible refine (wno.idx A0 c0 l0 h _ HR0.out HN.out).mono ?_); rintro e w2 ⟨rfl, hb2⟩; have HB2 := Aside0.mk hb2; clear hb2)
  go_ret
  exact ⟨rfl, HB2.out⟩
set_option maxHeartbeats 8000000 in
set_option maxRecDepth 100000 in
theorem watched_ (g : Nat) (s0 : Int) (s1 : ByteArray) (s2 : Int) (s3 s4 : ByteArray) (s5 s6 s7 s8 s9 : Int) (b0 b1 b2 b3 b4 b5 : Int) (b6 : Bool) (A7 : Option Addr) (c7 : Nat) (l7 : List S43) (A8 : Option Addr) (c8 : Nat) (l8 : List S50) (w0 w : World) (hI : w.heap[g]? = some (.cells #[.int .i64 s0, .string s1, .int .i64 s2, .string s3, .string s4, .int .i64 s5, .int .i64 s6, .int .i64 s7, .int .i64 s8, .int .i64 s9] 24 (0, 0))) (hG : w0.heap.size ≤ g) (hB : Below w0.heap.size w0 w) (hr8 : ∀ W_, KeepBut w W_ g none → Kd.C k50 W_ A8 l8.length l8) (hc8 : l8.length ≤ c8) (hn : ∀ x ∈ l8, x.f1 = false) (ht : slices_ContainsFunc_55.f l8 () = some true) : Calls Try.prog 43 #[.pointer (some ⟨g, 0, none⟩), .agg #[.int .i64 b0, .int .i64 b1, .int .i64 b2, .int .i64 b3, .int .i64 b4, .int .i64 b5, .bool b6, .slice A7 l7.length c7, .slice A8 l8.length c8]] w fun e w' => e = .returned (.tuple #[]) ∧ w'.heap[g]? = some (.cells #[.int .i64 s0, .string s1, .int .i64 s2, .string s3, .string s4, .int .i64 s5, .int .i64 2, .int .i64 s7, .int .i64 s8, .int .i64 s9] 24 (0, 0)) ∧ Below w0.heap.size w0 w' ∧ KeepBut w w' g none := by
  have hu24 := Try.underlying24; have hu48 := Try.underlying48; have hu43 := Try.underlying43; have BM := Aside0.mk hI; have GM := Aside0.mk hG; have HB := Aside0.mk hB; have HK := My.m (KeepBut.refl w g none); clear hI hG hB; have HR8 := Aside0.mk hr8; have HC8 := Aside0.mk hc8; have HN := Aside0.mk hn; have HT := Aside0.mk ht; clear hr8 hc8 hn ht
  go_enter Try.func43, Try.ntmps43
  go_wp2_with (first | ((with_reducible refine gate_dst (N := 2) rfl ?_); refine My.be 2 71 #[.pointer (some ⟨g, 0, none⟩)] ?_; intro gq hg w6 hbox hb; have BQ := My.m hbox; have NMQ := My.m (My.nl hg BM); have NQM := My.m (My.nr hg BM); replace BM := My.m (My.kb BM.out hb); replace HK := My.m (KeepBut.trans HK.out (KeepBut.of_below hb g none) (.inl rfl)); replace HB := My.m (below_step My.bA hb); clear hb hbox hg; have hn3 := NMQ.out; have hn4 := NQM.out) | ((with_reducible refine gate_dst (N := 3) rfl ?_); refine My.be 3 48 #[.int .i64 b0, .int .i64 b1, .int .i64 b2, .int .i64 b3, .int .i64 b4, .int .i64 b5, .bool b6, .slice A7 l7.length c7, .slice A8 l8.length c8] ?_; intro gp hg w1 hbox hb; have BP := My.m hbox; have NMP := My.m (My.nl hg BM); have NPM := My.m (My.nr hg BM); have NQP := My.m (My.nl hg BQ); have NPQ := My.m (My.nr hg BQ); replace BQ := My.m (My.kb BQ.out hb); replace BM := My.m (My.kb BM.out hb); replace HK := My.m (KeepBut.trans HK.out (KeepBut.of_below hb g none) (.inl rfl)); replace HB := My.m (below_step My.bA hb); clear hb hbox hg; have hn1 := NMP.out; have hn5 := NQP.out; have hn6 := NPQ.out; have hn2 := NPM.out; obtain ⟨_, _, _, _, _, _, _, _, _, _⟩ := My.qc10 BM.out; obtain ⟨_, _, _, _, _, _, _, _, _, _⟩ := My.qf10 BM.out; obtain ⟨_, _, _, _, _, _, _, _, _⟩ := My.qc9 BP.out; obtain ⟨_, _, _, _, _, _, _, _, _⟩ := My.qf9 BP.out; have q0 := (blk_cell BQ.out 0).trans rfl; have q1 := blk_frozen BQ.out 0) | (go_at_call 53; have HN_ := HN; clear HN; (with_reducible refine (wno.any A8 c8 l8 gq _ (HR8.out _ (by (with_reducible repeat (first | apply keep_drewN | apply keep_drew | apply keep_alloc)); exact HK.out)) HN_.out).mono ?_); clear HN_; rintro e w2 ⟨rfl, hb⟩; replace BQ := My.m (My.kb BQ.out hb); replace BM := My.m (My.kb BM.out hb); replace BP := My.m (My.kb BP.out hb); replace HK := My.m (KeepBut.trans (by (with_reducible repeat (first | apply keep_drewN | apply keep_drew | apply keep_alloc)); exact HK.out) (KeepBut.of_below hb g none) (.inl rfl)); replace HB := My.m (below_step My.bA hb); clear hb; obtain ⟨_, _, _, _, _, _, _, _, _, _⟩ := My.qc10 BM.out; obtain ⟨_, _, _, _, _, _, _, _, _, _⟩ := My.qf10 BM.out; obtain ⟨_, _, _, _, _, _, _, _, _⟩ := My.qc9 BP.out; obtain ⟨_, _, _, _, _, _, _, _, _⟩ := My.qf9 BP.out; have q0 := (blk_cell BQ.out 0).trans rfl; have q1 := blk_frozen BQ.out 0) | (go_at_call 53; (with_reducible refine (slices_ContainsFunc_55.calls A8 c8 l8 () true _ (HR8.out _ (by (with_reducible repeat (first | apply keep_drewN | apply keep_drew | apply keep_alloc)); exact HK.out)) HC8.out HT.out).mono ?_); rintro e w3 ⟨rfl, hb⟩; replace BQ := My.m (My.kb BQ.out hb); replace BM := My.m (My.kb BM.out hb); replace BP := My.m (My.kb BP.out hb); replace HK := My.m (KeepBut.trans (by (with_reducible repeat (first | apply keep_drewN | apply keep_drew | apply keep_alloc)); exact HK.out) (KeepBut.of_below hb g none) (.inl rfl)); replace HB := My.m (below_step My.bA hb); clear hb; obtain ⟨_, _, _, _, _, _, _, _, _, _⟩ := My.qc10 BM.out; obtain ⟨_, _, _, _, _, _, _, _, _, _⟩ := My.qf10 BM.out; obtain ⟨_, _, _, _, _, _, _, _, _⟩ := My.qc9 BP.out; obtain ⟨_, _, _, _, _, _, _, _, _⟩ := My.qf9 BP.out; have q0 := (blk_cell BQ.out 0).trans rfl; have q1 := blk_frozen BQ.out 0))
  (first | go_end0 | ((try simp only [Exit.inBlock, Exit.then]); refine bodyPost_ret (results_none rfl _ _ _) rfl ?_))
  exact ⟨My.q1, blk_put BM.out 6 _ rfl, My.bA, KeepBut.set_ HK.out _ _⟩
set_option maxHeartbeats 8000000 in
set_option maxRecDepth 100000 in
theorem to6 (g h : Nat) (s0 : Int) (s1 : ByteArray) (s2 : Int) (s3 s4 : ByteArray) (s5 s6 s7 s8 s9 : Int) (b0 b1 b2 b3 b4 b5 : Int) (b6 : Bool) (A7 : Option Addr) (c7 : Nat) (l7 : List S43) (A8 : Option Addr) (c8 : Nat) (l8 : List S50) (w0 w : World) (hI : w.heap[g]? = some (.cells #[.int .i64 s0, .string s1, .int .i64 s2, .string s3, .string s4, .int .i64 s5, .int .i64 s6, .int .i64 s7, .int .i64 s8, .int .i64 s9] 24 (0, 0))) (hG : w0.heap.size ≤ g) (hB : Below w0.heap.size w0 w) (hh : w.heap[h]? = some (.cells #[.int .i64 6] 3 (0, 0))) (hne : g ≠ h) : Calls Try.prog 56 #[.pointer (some ⟨g, 0, none⟩), .agg #[.int .i64 b0, .int .i64 b1, .int .i64 b2, .int .i64 b3, .int .i64 b4, .int .i64 b5, .bool b6, .slice A7 l7.length c7, .slice A8 l8.length c8], .pointer (some ⟨h, 0, none⟩)] w fun e w' => e = .returned (.tuple #[]) ∧ w'.heap[g]? = some (.cells #[.int .i64 s0, .string s1, .int .i64 s2, .string s3, .string s4, .int .i64 s5, .int .i64 6, .int .i64 0, .int .i64 s8, .int .i64 s9] 24 (0, 0)) ∧ Below w0.heap.size w0 w' ∧ KeepBut w w' g none := by
  have hu24 := Try.underlying24; have hu48 := Try.underlying48; have hu43 := Try.underlying43; have BM := Aside0.mk hI; have GM := Aside0.mk hG; have HB := Aside0.mk hB; have HK := My.m (KeepBut.refl w g none); clear hI hG hB; have BH := Aside0.mk hh; have hne2 := hne.symm; clear hh
  go_enter Try.func56, Try.ntmps56
  go_wp2_with (first | ((with_reducible refine gate_dst (N := 4) rfl ?_); refine My.be 4 48 #[.int .i64 b0, .int .i64 b1, .int .i64 b2, .int .i64 b3, .int .i64 b4, .int .i64 b5, .bool b6, .slice A7 l7.length c7, .slice A8 l8.length c8] ?_; intro gp hg w1 hbox hb; have BP := My.m hbox; have NMP := My.m (My.nl hg BM); have NPM := My.m (My.nr hg BM); have NHP := My.m (My.nl hg BH); have NPH := My.m (My.nr hg BH); replace BH := My.m (My.kb BH.out hb); replace BM := My.m (My.kb BM.out hb); replace HK := My.m (KeepBut.trans HK.out (KeepBut.of_below hb g none) (.inl rfl)); replace HB := My.m (below_step My.bA hb); clear hb hbox hg; have hn1 := NMP.out; have hn5 := NHP.out; have hn6 := NPH.out; have hn2 := NPM.out; obtain ⟨_, _, _, _, _, _, _, _, _, _⟩ := My.qc10 BM.out; obtain ⟨_, _, _, _, _, _, _, _, _, _⟩ := My.qf10 BM.out; obtain ⟨_, _, _, _, _, _, _, _, _⟩ := My.qc9 BP.out; obtain ⟨_, _, _, _, _, _, _, _, _⟩ := My.qf9 BP.out; have q0 := (blk_cell BH.out 0).trans rfl; have q1 := blk_frozen BH.out 0))
  (first | go_end0 | ((try simp only [Exit.inBlock, Exit.then]); refine bodyPost_ret (results_none rfl _ _ _) rfl ?_))
  exact ⟨My.q1, blk_put (cs := #[.int .i64 s0, .string s1, .int .i64 s2, .string s3, .string s4, .int .i64 s5, .int .i64 6, .int .i64 s7, .int .i64 s8, .int .i64 s9]) (blk_put BM.out 6 _ rfl) 7 _ rfl, My.bA, KeepBut.set_ (KeepBut.set_ HK.out _ _) _ _⟩
end Go.Proofs.Ytdehdhkhcilckaa.PM
