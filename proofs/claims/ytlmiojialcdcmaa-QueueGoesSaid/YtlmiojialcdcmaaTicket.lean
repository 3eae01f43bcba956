/- Tickets in plain Lean: what the printed functions of ticket come to. -/
import Derived.Test.YtlmiojialcdcmaaPM20
import Derived.Test.YtlmiojialcdcmaaPM27
import Derived.Test.YtlmiojialcdcmaaSort
set_option linter.unusedSimpArgs false
namespace Go.Proofs.Ytlmiojialcdcmaa.PM
open Go.RowKit Go.Proofs.YtlmiojialcdcmaaW.PrintWords Go.Proofs.YtlmiojialcdcmaaW.PrintLast Go.Proofs.YtlmiojialcdcmaaW.PrintMore Go.Proofs.Ytlmiojialcdcmaa.My
set_option linter.unusedVariables false
namespace TicketF
open SortT SortF
theorem tl (s:ByteArray):s.toList=s.data.toList:=ByteArray.toList_eq s
theorem ext {a b:ByteArray} (h:a.data.toList=b.data.toList):a=b:=Go.WideShapes.bytes_inj h
theorem rd {l:List KV} {i:Nat} (h:i < l.length):rd_T49 l (i:Int)=l[i]:=by simp [rd_T49,List.getElem?_eq_getElem h]
theorem nx {i:Nat} (h:i≤2000):wrap64 ((i:Int) + 1)=((i + 1:Nat):Int):=by rw [w64 (by omega) (by omega)];omega
def few (n:Int) (l:List KV):Bool:=decide ((l.length:Int)≤n) && l.all (fun x=> decide (x.f0.size≤60) && decide (x.f1.size≤60))
theorem few_l (l:List KV) (hl:l.length≤1000) (d:Nat):∀i:Nat,l.length=i + d→Ev (fun n=> batonref03_Few.l0 n l (i:Int)) ((l.drop i).all (fun x=> decide (x.f0.size≤60) && decide (x.f1.size≤60))):=by
  induction d with
  |zero=>
    intro i hd
    refine Ev.step (fun n=> by apply batonref03_Few.l0.eq_2) (ev_ifn (by omega) (ev_now ?_))
    rw [List.drop_of_length_le (by omega)]
    rfl
  |succ d ih=>
    intro i hd
    have hlt:i < l.length:=by omega
    rw [List.drop_eq_getElem_cons hlt,List.all_cons]
    refine Ev.step (fun n=> by apply batonref03_Few.l0.eq_2) (ev_if (by omega) (ev_if (by omega) ?_))
    rw [rd hlt,nx (by omega)]
    by_cases h:(l[i].f0.size:Int) > 60
    · refine ev_if h (ev_now ?_)
      rw [show decide (l[i].f0.size≤60)=false from decide_eq_false (by omega)];rfl
    · refine ev_ifn h ?_
      rw [show decide (l[i].f0.size≤60)=true from decide_eq_true (by omega)]
      by_cases h2:(l[i].f1.size:Int) > 60
      · refine ev_if h2 (ev_now ?_)
        rw [show decide (l[i].f1.size≤60)=false from decide_eq_false (by omega)];rfl
      · refine ev_ifn h2 ?_
        rw [show decide (l[i].f1.size≤60)=true from decide_eq_true (by omega)]
        exact ih (i + 1) (by omega)
theorem few_f {n:Int} (hn:n≤1000) (l:List KV):Ev (fun k=> batonref03_Few.f k l n) (few n l):=by
  unfold batonref03_Few.f few
  by_cases h:(l.length:Int) > n
  · refine ev_if h (ev_now ?_)
    rw [decide_eq_false (by omega)];rfl
  · refine ev_ifn h ?_
    rw [decide_eq_true (by omega)]
    have:=few_l l (by omega) l.length 0 (by omega)
    exact this
theorem few_len {l:List KV} {n:Int} (h:few n l=true):(l.length:Int)≤n:=by
  unfold few at h
  simp only [Bool.and_eq_true,decide_eq_true_eq] at h
  exact h.1
def ord (l:List KV):List KV:=tsort bf l
def has (k:ByteArray) (s:List KV):Bool:=s.any (fun x=> decide (x.f0=k))
instance memDec (k:ByteArray) (q:List ByteArray):Decidable (k∈q):= @List.instDecidableMemOfLawfulBEq ByteArray instBEqOfDecidableEq inferInstance k q
def hd (k:ByteArray) (s:List KV):List KV:=s.takeWhile (fun x=> !decide (x.f0=k))
def ww:ByteArray:=⟨#[119]⟩
def rdy (kind n:Int) (A:List KV):Bool:=if kind=1∨kind=3∨kind=5 then A.isEmpty else if kind=2 then !(A.any (fun x=> decide (x.f1=ww))) else if kind=4 then decide ((A.length:Int) < n) else false
def ready (kind n:Int) (l:List KV) (k:ByteArray):Bool:=has k l && rdy kind n (hd k (ord l))
theorem ord_len (l:List KV):(ord l).length=l.length:=tsort_len l
theorem order_f {l:List KV} (h:l.length≤1000):ticket_Order.f l=some (ord l):=by unfold ticket_Order.f;rw [if_pos h];rfl
end TicketF
end Go.Proofs.Ytlmiojialcdcmaa.PM
