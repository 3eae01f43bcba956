/- Tickets in plain Lean: what the references' printed functions come to. -/
import Derived.Test.YtlmiojialcdcmaaPM27
import Derived.Test.YtlmiojialcdcmaaTicket
set_option linter.unusedSimpArgs false
namespace Go.Proofs.Ytlmiojialcdcmaa.PM
open Go.RowKit Go.Proofs.YtlmiojialcdcmaaW.PrintWords Go.Proofs.YtlmiojialcdcmaaW.PrintLast Go.Proofs.YtlmiojialcdcmaaW.PrintMore Go.Proofs.Ytlmiojialcdcmaa.My
set_option linter.unusedVariables false
namespace TicketF
open SortT SortF
theorem before_f (a b:KV):batonref15_before.f a.f0 a.f1 a.f2 a.f3 a.f4 a.f5 b.f0 b.f1 b.f2 b.f3 b.f4 b.f5=some (bf a b):=by
  unfold batonref15_before.f
  rw [tl,tl]
  by_cases h:a.f2 < b.f2
  · rw [if_pos h,(bf_iff a b).2 (Or.inl h)]
  · rw [if_neg h]
    by_cases e:a.f2=b.f2
    · rw [if_pos e]
      congr 1
      rw [Bool.eq_iff_iff,bf_iff]
      exact⟨fun c=> Or.inr ⟨e,c⟩,fun c=> c.elim (fun d=> absurd d h) And.right⟩
    · rw [if_neg e]
      congr 1
      symm
      rw [←Bool.not_eq_true,bf_iff]
      rintro (c|c)
      · exact h c
      · exact e c.1
theorem tk (P S:List KV):(P ++ S).take ((P.length:Int):Int).toNat=P:=by rw [Int.toNat_natCast,List.take_left'];rfl
theorem dp (P S:List KV):(P ++ S).drop ((P.length:Int):Int).toNat=S:=by rw [Int.toNat_natCast,List.drop_left'];rfl
theorem order_l1 {l:List KV} (hl:l.length≤1000) {i:Nat} (hi:i < l.length) {R:List KV}:∀(S P:List KV),P.length + S.length≤1000→Ev (fun k=> batonref15_Order.l0 k l (P ++ ins bf l[i] S) ((i + 1:Nat):Int)) R→Ev (fun k=> batonref15_Order.l1 k l (P ++ S) (i:Int) (P.length:Int)) R
  | [],P,hp,h=> by
    refine Ev.step (fun n=> by apply batonref15_Order.l1.eq_2) (ev_ifn (by simp) (ev_c rfl (ev_if (by omega) (ev_if (by simp) (ev_c rfl (ev_if ?_ (ev_c rfl ?_)))))))
    · simp;simp at hp;omega
    rw [rd hi,nx (by omega),tk P []]
    refine ev_if (by omega) (ev_if (by omega) (ev_if ?_ (ev_c rfl (ev_c rfl (ev_if ?_ ?_)))))
    · simp;simp at hp;omega
    · rw [dp P []];simp;simp at hp;omega
    · rw [dp P []]
      simpa [ins] using h
  |y :: S,P,hp,h=> by
    have hpl:(P.length:Int) < ((P ++ y :: S).length:Int):=by simp;omega
    simp only [List.length_cons] at hp
    refine Ev.step (fun n=> by apply batonref15_Order.l1.eq_2) (ev_if hpl (ev_if (by omega) (ev_if (by omega) (ev_if (by omega) ?_))))
    have e:rd_T49 (P ++ y :: S) (P.length:Int)=y:=by rw [rd (by simp)];simp
    rw [rd hi,nx (by omega),nx (by omega),e]
    rw [ins_cons] at h
    refine ev_c (before_f l[i] y) ?_
    by_cases c:bf l[i] y=true
    · rw [if_pos c] at h
      refine ev_if c (ev_c rfl (ev_if (by simp;omega) (ev_c rfl ?_)))
      rw [tk P (y :: S),dp P (y :: S)]
      refine ev_if (by simp;omega) (ev_c rfl (ev_if (by simp;omega) (ev_c rfl (ev_c rfl (ev_if ?_ ?_)))))
      · simp;omega
      · simpa using h
    · rw [if_neg c] at h
      refine ev_ifn c ?_
      have:=order_l1 hl hi S (P ++ [y]) (by simp;omega) (by simpa using h)
      simpa using this
theorem order_l0 {l:List KV} (hl:l.length≤1000) (d:Nat):∀i:Nat,l.length=i + d→Ev (fun k=> batonref15_Order.l0 k l (ord (l.take i)) (i:Int)) (ord l):=by
  induction d with
  |zero=>
    intro i hd
    refine Ev.step (fun n=> by apply batonref15_Order.l0.eq_2) (ev_ifn (by omega) (ev_now ?_))
    rw [List.take_of_length_le (by omega)]
  |succ d ih=>
    intro i hd
    have hlt:i < l.length:=by omega
    refine Ev.step (fun n=> by apply batonref15_Order.l0.eq_2) (ev_if (by omega) ?_)
    have h:=ih (i + 1) (by omega)
    have e:=ord_len (l.take i)
    rw [List.length_take] at e
    rw [List.take_succ_eq_append_getElem hlt] at h
    have:=order_l1 hl hlt (ord (l.take i)) [] (by rw [ord_len,List.length_take];simp;omega) (R:=ord l) (by
      have q:ord (l.take i ++ [l[i]])=ins bf l[i] (ord (l.take i)):=tsort_snoc _ _
      rw [q] at h
      exact h)
    exact this
theorem order_r {l:List KV} (h:l.length≤1000):Ev (fun k=> batonref15_Order.f k l) (ord l):=order_l0 h l.length 0 (by omega)
end TicketF
end Go.Proofs.Ytlmiojialcdcmaa.PM
