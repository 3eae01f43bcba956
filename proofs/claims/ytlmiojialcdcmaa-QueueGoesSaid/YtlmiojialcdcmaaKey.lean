/- Keys in plain Lean: what the printed functions of key and of its reference come to. -/
import Derived.Test.YtlmiojialcdcmaaPM7
import Derived.Test.YtlmiojialcdcmaaPM9
import Derived.Test.YtlmiojialcdcmaaPM11
import Derived.Test.YtlmiojialcdcmaaPM25
import Derived.Test.YtlmiojialcdcmaaPM26
import Derived.Test.YtlmiojialcdcmaaMy
import Derived.Lib.Strings
set_option linter.unusedSimpArgs false
namespace Go.Proofs.Ytlmiojialcdcmaa.PM
open Go.RowKit Go.Proofs.YtlmiojialcdcmaaW.PrintWords Go.Proofs.YtlmiojialcdcmaaW.PrintLast Go.Proofs.YtlmiojialcdcmaaW.PrintMore Go.Proofs.Ytlmiojialcdcmaa.My
set_option linter.unusedVariables false
namespace Key
theorem tl (s:ByteArray):s.toList=s.data.toList:=ByteArray.toList_eq s
theorem sz (s:ByteArray):s.size=s.data.toList.length:=(data_length s).symm
theorem cat (a b:ByteArray):(a ++ b).data.toList=a.data.toList ++ b.data.toList:=by simp
theorem ext {a b:ByteArray} (h:a.data.toList=b.data.toList):a=b:=Go.WideShapes.bytes_inj h
theorem cut (s:ByteArray) (a b:Nat):(s.extract a b).data.toList=(s.data.toList.drop a).take (b - a):=Lib.extract_data s a b
def okB (b:UInt8):Bool:=decide (32 < b.toNat) && decide (b.toNat≤126)
def okN (b:UInt8):Bool:=(decide (97≤b.toNat) && decide (b.toNat≤122)) || (decide (48≤b.toNat) && decide (b.toNat≤57))
theorem allN:∀l:List UInt8,key_each_36.all l=some (l.all okN)
  | []=> rfl
  |b :: l=> by
    have h:key_Name_1.f (b.toNat:Int)=some (okN b):=by
      unfold key_Name_1.f okN
      repeat' split
      all_goals (congr 1;rw [Bool.eq_iff_iff];simp;omega)
    rw [key_each_36.all,h,Option.bind_some,List.all_cons]
    cases okN b
    · rfl
    · exact allN l
def chk (s:ByteArray):Bool:=decide (1≤s.size) && decide (s.size≤40) && s.data.toList.all okB
def nam (s:ByteArray):Bool:=decide (1≤s.size) && decide (s.size≤12) && s.data.toList.all okN
theorem nam_f (s:ByteArray):key_Name.f s=some (nam s):=by
  unfold key_Name.f key_each_36.f nam
  rw [if_neg (by decide),tl,allN,sz]
  cases s.data.toList with
  |nil=> rfl
  |cons b l=>
    rw [if_neg (by simp)]
    by_cases h:((b :: l).length:Int) > 12
    · rw [if_pos h,show decide ((b :: l).length≤12)=false by simp at h⊢;omega];simp
    · rw [if_neg h,show decide ((b :: l).length≤12)=true by simp at h⊢;omega];simp
def lett (k:Int):List UInt8:=if k=1 then [109] else if k=2∨k=3 then [108] else if k=4 then [115] else if k=5 then [101] else if k=6 then [112] else if k=7∨k=8 then [113] else []
theorem lett_len (k:Int):(lett k).length≤1:=by
  unfold lett;repeat' split
  all_goals decide
theorem lett_f (k:Int):key_letter.f k=some ⟨(lett k).toArray⟩:=by
  unfold key_letter.f lett
  repeat' split
  all_goals first|rfl|omega
def pre (k:Int) (s:ByteArray):List UInt8:=lett k ++ 47 :: s.data.toList ++ [47]
def may (k:Int) (s:ByteArray):Bool:=decide (lett k≠ []) && nam s
def prf (k:Int) (s:ByteArray):ByteArray×Bool:=if may k s=true then (⟨(pre k s).toArray⟩,true) else (⟨#[]⟩,false)
theorem prf_f (k:Int) {s:ByteArray} (hs:s.size≤100):key_Prefix.f k s=some (prf k s):=by
  unfold key_Prefix.f prf may
  rw [lett_f,Option.bind_some,ByteArray.toList_mk,nam_f]
  by_cases h:lett k= []
  · rw [if_pos h,if_neg (by simp [h])]
  · rw [if_neg h]
    have hl:=lett_len k
    cases hn:nam s with
    |false=> simp
    |true=>
      have e1:(ByteArray.mk (lett k).toArray).size=(lett k).length:=by simp [ByteArray.size]
      have e2:(ByteArray.mk (lett k).toArray ++ ⟨#[47]⟩).size=(lett k).length + 1:=by rw [sz,cat];simp
      have e3:(ByteArray.mk (lett k).toArray ++ ⟨#[47]⟩ ++ s).size=(lett k).length + 1 + s.size:=by rw [sz,cat,cat,List.length_append,←sz s];simp
      rw [Option.bind_some,if_pos rfl,e1,e2,e3,if_pos (by omega),if_pos (by omega),if_pos (by omega),if_pos (by simp [h])]
      congr 2
      apply ext
      rw [cat,cat,cat]
      simp [pre]
def inr (id:Int):Bool:=decide (0≤id) && decide (id≤1099511627775)
theorem bt_nat (s:ByteArray) (i:Nat) (h:i < s.data.toList.length):bt s (i:Int)=((s.data.toList[i]'h).toNat:Int):=by
  unfold bt
  rw [dif_pos (by rw [sz];simpa using h)]
  simp [ByteArray.getElem_eq_getElem_data]
theorem nam_l (s:ByteArray) (hs:s.size≤100) (d:Nat):∀(i:Nat),s.size=i + d→Ev (fun k=> batonref02_Name.l0 k s (i:Int)) ((s.data.toList.drop i).all okN):=by
  induction d with
  |zero=>
    intro i hd
    refine Ev.step (fun k=> by apply batonref02_Name.l0.eq_2) ?_
    refine ev_ifn (by omega) (ev_now ?_)
    rw [List.drop_of_length_le (by rw [←sz];omega)]
    rfl
  |succ d ih=>
    intro i hd
    have hlt:i < s.data.toList.length:=by rw [←sz];omega
    have e:=bt_nat s i hlt
    have hi1:wrap64 ((i:Int) + 1)=((i + 1:Nat):Int):=by rw [w64 (by omega) (by omega)];omega
    rw [List.drop_eq_getElem_cons hlt,List.all_cons]
    refine Ev.step (fun k=> by apply batonref02_Name.l0.eq_2) ?_
    refine ev_if (by omega) (ev_if (by omega) ?_)
    rw [e,hi1]
    generalize s.data.toList[i]=b
    have hk:=ih (i + 1) (by omega)
    by_cases c:(b.toNat:Int) < 97
    · refine ev_if c ?_
      by_cases c2:(b.toNat:Int) < 48
      · refine ev_if c2 (ev_now ?_)
        rw [show okN b=false by unfold okN;simp;omega];rfl
      · refine ev_ifn c2 ?_
        by_cases c3:(b.toNat:Int) > 57
        · refine ev_if c3 (ev_now ?_)
          rw [show okN b=false by unfold okN;simp;omega];rfl
        · refine ev_ifn c3 ?_
          rw [show okN b=true by unfold okN;simp;omega,Bool.true_and]
          exact hk
    · refine ev_ifn c ?_
      by_cases c2:(b.toNat:Int) > 122
      · refine ev_if c2 ?_
        refine ev_ifn (by omega) (ev_if (by omega) (ev_now ?_))
        rw [show okN b=false by unfold okN;simp;omega];rfl
      · refine ev_ifn c2 ?_
        rw [show okN b=true by unfold okN;simp;omega,Bool.true_and]
        exact hk
theorem nam_ref {s:ByteArray} (hs:s.size≤100):Ev (fun k=> batonref02_Name.f k s) (nam s):=by
  unfold batonref02_Name.f nam
  by_cases h:(s.size:Int) < 1
  · refine ev_if h (Ev.step (fun k=> by apply batonref02_Name.j0.eq_2) (ev_if rfl (ev_now ?_)))
    rw [show decide (1≤s.size)=false from decide_eq_false (by omega)];rfl
  · refine ev_ifn h (Ev.step (fun k=> by apply batonref02_Name.j0.eq_2) ?_)
    by_cases h2:(s.size:Int) > 12
    · refine ev_if (by simpa using h2) (ev_now ?_)
      rw [show decide (s.size≤12)=false by simp;omega];simp
    · refine ev_ifn (by simpa using h2) ?_
      rw [show decide (s.size≤12)=true by simp;omega,show decide (1≤s.size)=true by simp;omega]
      have:=nam_l s hs s.size 0 (by omega)
      simpa using this
theorem pfx_tail (c:UInt8) {s:ByteArray} (hs:s.size≤100):Ev (fun k=> if ([c]:List UInt8)=([]:List UInt8) then (some ((⟨#[]⟩:ByteArray),false)) else ((batonref02_Name.f k s).bind fun t=> (if t=true then (if 1 + 1≤9223372036854775807 then (if 1 + s.size≤9223372036854775807 then (if (((⟨#[c]⟩:ByteArray) ++ (⟨#[47]⟩:ByteArray)) ++ s).size + 1≤9223372036854775807 then (some ((((⟨#[c]⟩:ByteArray) ++ (⟨#[47]⟩:ByteArray)) ++ s) ++ (⟨#[47]⟩:ByteArray),true)) else (none)) else (none)) else (none)) else (some ((⟨#[]⟩:ByteArray),false)))))
    (if nam s=true then (⟨([c] ++ 47 :: s.data.toList ++ [47]).toArray⟩,true) else (⟨#[]⟩,false)):=by
  refine ev_ifn (by simp) (ev_b (nam_ref hs) ?_)
  by_cases h:nam s=true
  · refine ev_if h (ev_if (by omega) (ev_if (by omega) (ev_if ?_ (ev_now ?_))))
    · rw [sz,cat,cat,List.length_append,←sz s];simp;omega
    · rw [if_pos h]
      congr 1
  · refine ev_ifn h (ev_now ?_)
    rw [if_neg h]
theorem prf_c {k:Int} {c:UInt8} (s:ByteArray) (h:lett k= [c]):prf k s=if nam s=true then (⟨([c] ++ 47 :: s.data.toList ++ [47]).toArray⟩,true) else (⟨#[]⟩,false):=by
  unfold prf may pre
  rw [h]
  simp
theorem prf_no {k:Int} (s:ByteArray) (h:lett k= []):prf k s=(⟨#[]⟩,false):=by
  unfold prf may
  rw [h]
  simp
theorem prf_ref (k:Int) {s:ByteArray} (hs:s.size≤100):Ev (fun n=> batonref02_Prefix.f n k s) (prf k s):=by
  unfold batonref02_Prefix.f
  by_cases h1:k=1
  · rw [prf_c (c:=109) s (by simp [lett,h1])]
    exact ev_if h1 (pfx_tail 109 hs)
  refine ev_ifn h1 ?_
  by_cases h2:k=2
  · rw [prf_c (c:=108) s (by simp [lett,h2])]
    exact ev_if h2 (Ev.step (fun k=> by apply batonref02_Prefix.j0.eq_2) (ev_if (by simp [h2]) (pfx_tail 108 hs)))
  refine ev_ifn h2 (Ev.step (fun k=> by apply batonref02_Prefix.j0.eq_2) ?_)
  by_cases h3:k=3
  · rw [prf_c (c:=108) s (by simp [lett,h3])]
    exact(ev_if (by simp [h3]) (pfx_tail 108 hs))
  refine ev_ifn (by simpa using h3) ?_
  by_cases h4:k=4
  · rw [prf_c (c:=115) s (by simp [lett,h4])]
    exact ev_if h4 (pfx_tail 115 hs)
  refine ev_ifn h4 ?_
  by_cases h5:k=5
  · rw [prf_c (c:=101) s (by simp [lett,h5])]
    exact ev_if h5 (pfx_tail 101 hs)
  refine ev_ifn h5 ?_
  by_cases h6:k=6
  · rw [prf_c (c:=112) s (by simp [lett,h6])]
    exact ev_if h6 (pfx_tail 112 hs)
  refine ev_ifn h6 ?_
  by_cases h7:k=7
  · rw [prf_c (c:=113) s (by simp [lett,h7])]
    exact ev_if h7 (Ev.step (fun k=> by apply batonref02_Prefix.j1.eq_2) (ev_if (by simp [h7]) (pfx_tail 113 hs)))
  refine ev_ifn h7 (Ev.step (fun k=> by apply batonref02_Prefix.j1.eq_2) ?_)
  by_cases h8:k=8
  · rw [prf_c (c:=113) s (by simp [lett,h8])]
    exact(ev_if (by simp [h8]) (pfx_tail 113 hs))
  rw [prf_no s (by simp [lett,h1,h2,h3,h4,h5,h6,h7,h8])]
  refine ev_ifn (by simpa using h8) (ev_if (by rw [tl]) (ev_now rfl))
end Key
end Go.Proofs.Ytlmiojialcdcmaa.PM
