import Derived.Test.YtlmiojialcdcmaaPM0
import Derived.Test.YtlmiojialcdcmaaPM3
import Derived.Test.YtlmiojialcdcmaaPM9
namespace Go.Proofs.Ytlmiojialcdcmaa.PM
open Go.RowKit Go.Proofs.YtlmiojialcdcmaaW.PrintWords Go.Proofs.YtlmiojialcdcmaaW.PrintLast Go.Proofs.YtlmiojialcdcmaaW.PrintMore
attribute [local go_sem] max2_int min2_int max_two min_two max_three min_three max_four min_four
attribute [local go_sem high] Go.Proofs.Ytlmiojialcdcmaa.My.str_leq Go.Proofs.Ytlmiojialcdcmaa.My.str_gtr Go.Proofs.Ytlmiojialcdcmaa.My.str_geq
set_option linter.unusedVariables false
set_option linter.unusedSimpArgs false

/-! ### queue_Ask: function 9 -/
-- (by hand)
def k2 (p q:Int):Value:= .agg #[.int .i64 p,.int .i64 q]
structure Ent where
  p:Int
  q:Int
  v:Value
  n:Nat
def Ent.mk' (d:Ent):MapEntry:={key:=k2 d.p d.q,val:=d.v,born:=d.n}
def look:List Ent→Int→Int→Option Value
  | [],_,_=> none
  |d :: D,x,y=> if d.p=x∧d.q=y then some d.v else look D x y
theorem look_app (d:Ent) (x y:Int):∀D,look (D ++ [d]) x y=match look D x y with|some v=> some v|none=> if d.p=x∧d.q=y then some d.v else none
  | []=> rfl
  |e :: D=> by
    simp only [List.cons_append,look]
    by_cases h:e.p=x∧e.q=y
    · rw [if_pos h,if_pos h]
    · rw [if_neg h,if_neg h,look_app d x y D]
theorem chk (p q:Int) (b:Bool) (w:World):(Instr.checkKey b 10000 58 (k2 p q)).run Try.prog w= .ok () w:=by
  unfold k2
  kernel_rfl
theorem fA (x y:Int) (w:World):∀(D:List Ent) (i:Nat),∃r,(Instr.findAsking 58 (k2 x y) (D.map Ent.mk') i).run Try.prog w= .ok r w∧r.map (·.2)=look D x y
  | [],i=> ⟨none,rfl,rfl⟩
  |d :: D,i=> by
    obtain⟨r,h1,h2⟩:=fA x y w D (i + 1)
    have he:(Op.equal 58 (k2 x y) (k2 d.p d.q)).run Try.prog w= .ok (x == d.p && (y == d.q)) w:=eqA58 9998 w x d.p y d.q
    by_cases h:d.p=x∧d.q=y
    · refine⟨some (i,d.v),?_,?_⟩
      · have hb:(x == d.p && (y == d.q))=true:=by simp [h.1,h.2]
        simp only [List.map_cons,Instr.findAsking,Ent.mk',Sem.run_bind,he,hb,Result.andThen_ok]
        rfl
      · simp [look,h]
    · refine⟨r,?_,?_⟩
      · have hb:(x == d.p && (y == d.q))=false:=by
          rw [Bool.and_eq_false_iff]
          by_cases h3:x=d.p
          · right;simp only [beq_eq_false_iff_ne];exact fun e=> h ⟨h3.symm,e.symm⟩
          · left;simpa using h3
        simp only [List.map_cons,Instr.findAsking,Ent.mk',Sem.run_bind,he,hb,Result.andThen_ok]
        exact h1
      · rw [h2,look,if_neg h]
theorem fK (x y:Int) (w:World) (D:List Ent):∃r,(Instr.findKey 58 (k2 x y) (D.map Ent.mk')).run Try.prog w= .ok r w∧r.map (·.2)=look D x y:=by
  cases D with
  |nil=> exact⟨none,by simp [Instr.findKey,run_underlying Try.underlying58,Instr.findNow,Result.andThen],rfl⟩
  |cons d D=>
    obtain⟨r,h1,h2⟩:=fA x y w (d :: D) 0
    refine⟨r,?_,h2⟩
    simp only [Instr.findKey,Sem.run_bind,run_underlying Try.underlying58,Result.andThen_ok]
    exact h1
theorem upd (b p q:Nat) (x y:Int) (v:Value) (w:World) (D:List Ent) (c:Nat) (hb:w.heap[b]? =some (.map (D.map Ent.mk').toArray c)) (hn:look D x y=none):
    ∃w1,(Instr.mapUpdate 55 (.map (some b)) (k2 x y) v).run Try.prog w= .ok () w1∧w1.heap[b]? =some (.map ((D ++ [Ent.mk x y v c]).map Ent.mk').toArray (c + 1))∧w.grownBy w1 (some b):=by
  obtain⟨r,h1,h2⟩:=fK x y w D
  rw [hn] at h2
  have hr:r=none:=by cases r <;> simp at h2⊢
  subst hr
  refine⟨{w with heap:=w.heap.setIfInBounds b (.map ((D ++ [Ent.mk x y v c]).map Ent.mk').toArray (c + 1))},?_,?_,?_⟩
  · have hu:Try.prog.underlying 55=some (.map 58 34):=by kernel_rfl
    simp [Instr.mapUpdate,run_underlying hu,MapKept.run_getObj_map hb,chk,h1,MapKept.run_setObj_map _ hb,Result.andThen,Ent.mk']
  · have hl:=(Array.getElem?_eq_some_iff.1 hb).1
    simp [hl]
  · refine⟨rfl,rfl,rfl,by simp,fun k hk hne=> ?_⟩
    have:b≠k:=fun e=> hne (by rw [e])
    simp [Array.getElem?_setIfInBounds,this]
theorem lkp (b:Nat) (x y:Int) (w:World) (D:List Ent) (c:Nat) (hb:w.heap[b]? =some (.map (D.map Ent.mk').toArray c)):
    (Instr.lookup 55 (.map (some b)) (k2 x y) true).run Try.prog w= .ok (.tuple #[(look D x y).getD (.agg #[.int .i64 0,.int .i64 0,.int .i64 0,.bool false,.string ⟨#[]⟩,.string ⟨#[]⟩,.int .i64 0,.int .i64 0,.int .i64 0,.int .i64 0,.slice none 0 0,.slice none 0 0,.slice none 0 0]),.bool (look D x y).isSome]) w:=by
  obtain⟨r,h1,h2⟩:=fK x y w D
  have hu:Try.prog.underlying 55=some (.map 58 34):=by kernel_rfl
  have hz:(zeroValue 34).run Try.prog w= .ok (.agg #[.int .i64 0,.int .i64 0,.int .i64 0,.bool false,.string ⟨#[]⟩,.string ⟨#[]⟩,.int .i64 0,.int .i64 0,.int .i64 0,.int .i64 0,.slice none 0 0,.slice none 0 0,.slice none 0 0]) w:=by kernel_rfl
  rw [←h2]
  cases r with
  |none=> simp [Instr.lookup,run_underlying hu,MapKept.run_getObj_map hb,chk,h1,hz,Result.andThen]
  |some r=> simp [Instr.lookup,run_underlying hu,MapKept.run_getObj_map hb,chk,h1,Result.andThen]

/-- What stands in cells stays. -/
def Kp (w w1:World):Prop:=∀(k:Nat) (cells:Array Value) (q:TypeId),w.heap[k]? =some (Obj.cells cells q (0,0))→w1.heap[k]? =w.heap[k]?
theorem Kp.of_below {w w1:World} (h:Below w.heap.size w w1):Kp w w1:=fun k cells q hk=> h.block k (blk_lt hk)
theorem Kp.of_map {w w1:World} {b:Nat} {es:Array MapEntry} {c:Nat} (hb:w.heap[b]? =some (.map es c)) (h:w.grownBy w1 (some b)):Kp w w1:=fun k cells q hk=> h.block k (blk_lt hk) (by intro e;injection e with e;subst e;rw [hb] at hk;cases hk)
theorem Kp.row {α:Type} {d:Kd α} {e base:Nat} {ok:Nat→Prop} {v:Value} {xs:List α} {w w1:World} (hk:Kp w w1) (h:d.R e w base ok v xs):d.R e w1 base ok v xs:=
  Kd.R_mono (Kd.R_move (Kd.R_bound h) (fun k hk'=> by obtain⟨_,_,_,q,_,cells,hc⟩:=hk';exact hk k cells q hc)) (fun _ hk=> hk.1)
/-- A transaction's value, its rows its own. -/
structure Tx (base:Nat) (l0:List S51) (l1 l2:List S76) (v:Value) (w:World):Prop where
  ex:∃A0 c0 A1 c1 A2 c2,v= .agg #[.slice A0 l0.length c0,.slice A1 l1.length c1,.slice A2 l2.length c2]∧Kd.R k51 51 w base (fun _=> True) (.slice A0 l0.length c0) l0∧Kd.R k76 76 w base (fun k_=> some k_≠(Value.slice A2 l2.length c2).ownBlock) (.slice A1 l1.length c1) l1∧Kd.R k76 76 w base (fun k_=> some k_≠(Value.slice A1 l1.length c1).ownBlock) (.slice A2 l2.length c2) l2
theorem Tx.kp {base:Nat} {l0:List S51} {l1 l2:List S76} {v:Value} {w w1:World} (h:Tx base l0 l1 l2 v w) (hk:Kp w w1):Tx base l0 l1 l2 v w1:=by
  obtain⟨A0,c0,A1,c1,A2,c2,rfl,h0,h1,h2⟩:=h.ex
  exact⟨A0,c0,A1,c1,A2,c2,rfl,hk.row h0,hk.row h1,hk.row h2⟩
def rqOf:Value→Value
  | .agg a=> .agg (#[.int .i64 2,.int .i64 0,.int .i64 0,.bool true,.string ⟨#[]⟩,.string ⟨#[]⟩,.int .i64 0,.int .i64 0,.int .i64 0,.int .i64 0] ++ a)
  |v=> v
abbrev rq2 (pf:ByteArray):Value:= .agg #[.int .i64 1,.int .i64 0,.int .i64 0,.bool false,.string pf,.string ⟨#[]⟩,.int .i64 0,.int .i64 0,.int .i64 0,.int .i64 0,.slice none 0 0,.slice none 0 0,.slice none 0 0]
abbrev rq3 (pf:ByteArray) (r:Int):Value:= .agg #[.int .i64 3,.int .i64 0,.int .i64 0,.bool false,.string pf,.string ⟨#[]⟩,.int .i64 0,.int .i64 r,.int .i64 0,.int .i64 0,.slice none 0 0,.slice none 0 0,.slice none 0 0]
theorem change1 (A0 A1 A2:Option Addr) (n0 n1 n2 c0 c1 c2:Nat) (w:World):Calls Try.prog 38 #[.agg #[.slice A0 n0 c0,.slice A1 n1 c1,.slice A2 n2 c2]] w fun e w'=> e= .returned (rqOf (.agg #[.slice A0 n0 c0,.slice A1 n1 c1,.slice A2 n2 c2]))∧Below w.heap.size w w':=by
  have hu32:=Try.underlying32
  have hu34:=Try.underlying34
  have HB:=Aside0.mk (Below.refl w.heap.size w)
  go_enter Try.func38,Try.ntmps38
  go_wp2_with (first|((with_reducible refine gate_dst (N:=1) rfl ?_);refine My.be 1 32 #[.slice A0 n0 c0,.slice A1 n1 c1,.slice A2 n2 c2] ?_;intro gb107 hg w2 hbox hb;have BK107:=My.m hbox;have GE107:=My.m ((My.nw w hg My.bB));replace HB:=My.m (below_step My.bB hb);clear hb hbox hg)|((with_reducible refine gate_dst (N:=2) rfl ?_);refine My.be 2 34 #[.int .i64 0,.int .i64 0,.int .i64 0,.bool false,.string (⟨#[]⟩:ByteArray),.string (⟨#[]⟩:ByteArray),.int .i64 0,.int .i64 0,.int .i64 0,.int .i64 0,.slice none 0 0,.slice none 0 0,.slice none 0 0] ?_;intro gb108 hg w3 hbox hb;have BK108:=My.m hbox;have GE108:=My.m ((My.nw w hg (My.bG GE107.out)));replace HB:=My.m (below_step (My.bG GE107.out) hb);have NB107_108:=My.m ((My.nl hg BK107));have NB108_107:=My.m ((My.nr hg BK107));replace BK107:=My.m (My.kb BK107.out hb);clear hb hbox hg;have hnb4:=NB107_108.out;have hnc4:=NB108_107.out;obtain⟨_,_,_⟩:=My.qc3 BK107.out;obtain⟨_,_,_⟩:=My.qf3 BK107.out;obtain⟨_,_,_,_,_,_,_,_,_,_,_,_,_⟩:=My.qc13 BK108.out;obtain⟨_,_,_,_,_,_,_,_,_,_,_,_,_⟩:=My.qf13 BK108.out))
  refine bodyPost_ret (results_cell_row rfl _ _ gb108 34 #[.int .i64 2,.int .i64 0,.int .i64 0,.bool true,.string (⟨#[]⟩:ByteArray),.string (⟨#[]⟩:ByteArray),.int .i64 0,.int .i64 0,.int .i64 0,.int .i64 0,.slice A0 n0 c0,.slice A1 n1 c1,.slice A2 n2 c2] (0,0) _ rfl (My.qp13 BK108.out) Try.underlying34 rfl (by kernel_rfl)) rfl ?_
  exact⟨rfl,(My.bH GE107.out GE108.out)⟩
def asksT:Bool×List (List Nat×List Nat):=(true,[([],[]),([],[]),([],[]),([2],[2]),([],[]),([4],[4]),([3,5],[3,5]),([6,6],[6]),([0,1,7],[0,1,7]),([],[]),([],[]),([10],[10]),([0,9,11],[0,9,11]),([],[]),([],[]),([],[]),([15],[15]),([14,16],[14,16]),([0,13,17],[0,13,17]),([],[]),([],[]),([20],[20]),([],[]),([22],[22]),([21,23,7],[21,23]),([24,24],[24]),([0,19,25],[0,19,25]),([0,1,2,3,4,5,6,7,8,9,10,11,12,13,14,15,16,17,18,19,20,21,22,23,24,25,26],[0]),([27,25,0,1,2,3,4,5,6,7,8,9,10,11,12,13,14,15,16,17,18,19,20,21,22,23,24,25,26,27],[27])])
def asksB:List Nat:= [0,0,0,4,0,16,60,124,255,0,0,1024,3585,0,0,0,32768,114688,253953,0,0,1048576,0,4194304,15728892,32506108,66584829,134217727,268435455]
theorem asks_tab:rtab .any (opsOf Try.f21 1)=asksT:=by kernel_rfl
theorem asks_bits:waitsOk asksT.2 asksB=true:=by kernel_rfl
/-- What has come up. -/
def st (b0 b6 b7 b8 b12 b18 b24 b25 b26:Bool):Array Bool:= #[b0,true,true,true,true,true,b6,b7,b8,true,true,true,b12,true,true,true,true,true,b18,true,true,true,true,true,b24,b25,b26,false,false]
def cond_ (b0 b6 b7 b8 b12 b18 b24 b25 b26:Bool) (i:Nat):Bool:=(i == 0 && !b0) || (i == 6 && !b6) || (i == 7 && !b7 && b6) || (i == 8 && !b8 && b0 && b7) || (i == 12 && !b12 && b0) || (i == 18 && !b18 && b0) || (i == 24 && !b24 && b7) || (i == 25 && !b25 && b24) || (i == 26 && !b26 && b0 && b25) || (i == 27 && b0 && b6 && b7 && b8 && b12 && b18 && b24 && b25 && b26)
def rdyT:Bool:= [true,false].all fun b0=> [true,false].all fun b6=> [true,false].all fun b7=> [true,false].all fun b8=> [true,false].all fun b12=> [true,false].all fun b18=> [true,false].all fun b24=> [true,false].all fun b25=> [true,false].all fun b26=> (readyT asksT.2 (st b0 b6 b7 b8 b12 b18 b24 b25 b26).toList).all (cond_ b0 b6 b7 b8 b12 b18 b24 b25 b26)
theorem rdyT_ok:rdyT=true:=by kernel_rfl
theorem allB {p:Bool→Bool} (h: [true,false].all p=true) (b:Bool):p b=true:=List.all_eq_true.1 h b (by cases b <;> simp)
theorem rdy (b0 b6 b7 b8 b12 b18 b24 b25 b26:Bool) {i:Nat} (h:i∈Region.ready .any (opsOf Try.f21 1) (st b0 b6 b7 b8 b12 b18 b24 b25 b26)):cond_ b0 b6 b7 b8 b12 b18 b24 b25 b26 i=true:=by
  rw [ready_eq,asks_tab] at h
  exact List.all_eq_true.1 (allB (allB (allB (allB (allB (allB (allB (allB (allB rdyT_ok b0) b6) b7) b8) b12) b18) b24) b25) b26) i h
def tbl (b8 b12 b18 b26:Bool) (V1 V2 V3 V4:Value) (x y:Int):Option Value:=if b8=true∧7=x∧1=y then some V1 else if b12=true∧8=x∧2=y then some V2 else if b18=true∧8=x∧3=y then some V3 else if b26=true∧8=x∧10=y then some V4 else none

/-- What holds, whatever has come up. -/
structure Iv (w0:World) (g:Nat) (p1:List S51) (p2 p3:List S76) (d1:List S51) (d2 d3:List S76) (a0:Int) (a1:ByteArray) (a2:Int) (a3 a4:ByteArray) (a5 a6 a7 a8 a9:Int) (pf:ByteArray) (b0 b6 b7 b8 b12 b18 b24 b25 b26:Bool) (v5 v11 v12 v26 v27:Value) (w:World):Prop where
  below:Below w0.heap.size w0 w
  box:w.heap[g]? =some (Obj.cells #[.int .i64 a0,.string a1,.int .i64 a2,.string a3,.string a4,.int .i64 a5,.int .i64 a6,.int .i64 a7,.int .i64 a8,.int .i64 a9] 24 (0,0))
  mp:b0=true→∃b D c,v5= .map (some b)∧w0.heap.size≤b∧w.heap[b]? =some (Obj.map (D.map Ent.mk').toArray c)∧∀x y,look D x y=tbl b8 b12 b18 b26 v12 (rq2 pf) (rq3 pf a8) v27 x y
  p6:b6=true→Tx w0.heap.size p1 p2 p3 v11 w
  p7:b7=true→v12=rqOf v11
  p24:b24=true→Tx w0.heap.size d1 d2 d3 v26 w
  p25:b25=true→v27=rqOf v26
  c8:b8=true→b7=true
  c26:b26=true→b25=true
  c7:b7=true→b6=true
  c25:b25=true→b24=true
  c0:b8=true∨b12=true∨b18=true∨b26=true→b0=true
/-- As many as are still to come. -/
def left_ (b0 b6 b7 b8 b12 b18 b24 b25 b26:Bool):Nat:= [b0,b6,b7,b8,b12,b18,b24,b25,b26].countP (fun b=> !b)
def Sh (g:Nat) (a3 a4:ByteArray) (a7 a8:Int) (w':World):Prop:=w'.cell? ⟨g,4,none⟩=some (.string a4)∧w'.cell? ⟨g,3,none⟩=some (.string a3)∧w'.cell? ⟨g,8,none⟩=some (.int .i64 a8)∧w'.cell? ⟨g,7,none⟩=some (.int .i64 a7)
theorem Sh.of {g:Nat} {w:World} (a0:Int) (a1:ByteArray) (a2:Int) (a3 a4:ByteArray) (a5 a6 a7 a8 a9:Int) (pf:ByteArray) (h:w.heap[g]? =some (Obj.cells #[.int .i64 a0,.string a1,.int .i64 a2,.string a3,.string a4,.int .i64 a5,.int .i64 a6,.int .i64 a7,.int .i64 a8,.int .i64 a9] 24 (0,0))):Sh g a3 a4 a7 a8 w:=⟨(blk_cell h 4).trans rfl,(blk_cell h 3).trans rfl,(blk_cell h 8).trans rfl,(blk_cell h 7).trans rfl⟩
theorem blk_kp {w w1:World} {g t:Nat} {cs:Array Value} (h:w.heap[g]? =some (Obj.cells cs t (0,0))) (hk:Kp w w1):w1.heap[g]? =some (Obj.cells cs t (0,0)):=(hk g cs t h).trans h
def rdyNT:Bool:= [true,false].all fun b0=> [true,false].all fun b6=> [true,false].all fun b7=> [true,false].all fun b8=> [true,false].all fun b12=> [true,false].all fun b18=> [true,false].all fun b24=> [true,false].all fun b25=> [true,false].all fun b26=> left_ b0 b6 b7 b8 b12 b18 b24 b25 b26 == 0 || !((readyT asksT.2 (st b0 b6 b7 b8 b12 b18 b24 b25 b26).toList) == [])
theorem rdyNT_ok:rdyNT=true:=by kernel_rfl
theorem rdyN (b0 b6 b7 b8 b12 b18 b24 b25 b26:Bool) (hl:left_ b0 b6 b7 b8 b12 b18 b24 b25 b26≠0):Region.ready .any (opsOf Try.f21 1) (st b0 b6 b7 b8 b12 b18 b24 b25 b26)≠ []:=by
  rw [ready_eq,asks_tab]
  intro h
  have:=allB (allB (allB (allB (allB (allB (allB (allB (allB rdyNT_ok b0) b6) b7) b8) b12) b18) b24) b25) b26
  rw [h] at this
  simp at this
  exact hl this
theorem tbl1 (b12 b18 b26:Bool) (V1 V2 V3 V4:Value) (x y:Int):(match tbl false b12 b18 b26 V1 V2 V3 V4 x y with|some v=> some v|none=> if 7=x∧1=y then some V1 else none)=tbl true b12 b18 b26 V1 V2 V3 V4 x y:=by
  by_cases h1:7=x∧1=y
  · obtain⟨rfl,rfl⟩:=h1;simp [tbl]
  · rw [show tbl true b12 b18 b26 V1 V2 V3 V4 x y=tbl false b12 b18 b26 V1 V2 V3 V4 x y by simp [tbl,h1]];simp only [h1,if_false];cases tbl false b12 b18 b26 V1 V2 V3 V4 x y <;> rfl
theorem tbl2 (b8 b18 b26:Bool) (V1 V2 V3 V4:Value) (x y:Int):(match tbl b8 false b18 b26 V1 V2 V3 V4 x y with|some v=> some v|none=> if 8=x∧2=y then some V2 else none)=tbl b8 true b18 b26 V1 V2 V3 V4 x y:=by
  by_cases h1:8=x∧2=y
  · obtain⟨rfl,rfl⟩:=h1;simp [tbl]
  · rw [show tbl b8 true b18 b26 V1 V2 V3 V4 x y=tbl b8 false b18 b26 V1 V2 V3 V4 x y by simp [tbl,h1]];simp only [h1,if_false];cases tbl b8 false b18 b26 V1 V2 V3 V4 x y <;> rfl
theorem tbl3 (b8 b12 b26:Bool) (V1 V2 V3 V4:Value) (x y:Int):(match tbl b8 b12 false b26 V1 V2 V3 V4 x y with|some v=> some v|none=> if 8=x∧3=y then some V3 else none)=tbl b8 b12 true b26 V1 V2 V3 V4 x y:=by
  by_cases h1:8=x∧3=y
  · obtain⟨rfl,rfl⟩:=h1;simp [tbl]
  · rw [show tbl b8 b12 true b26 V1 V2 V3 V4 x y=tbl b8 b12 false b26 V1 V2 V3 V4 x y by simp [tbl,h1]];simp only [h1,if_false];cases tbl b8 b12 false b26 V1 V2 V3 V4 x y <;> rfl
theorem tbl4 (b8 b12 b18:Bool) (V1 V2 V3 V4:Value) (x y:Int):(match tbl b8 b12 b18 false V1 V2 V3 V4 x y with|some v=> some v|none=> if 8=x∧10=y then some V4 else none)=tbl b8 b12 b18 true V1 V2 V3 V4 x y:=by
  by_cases h1:8=x∧10=y
  · obtain⟨rfl,rfl⟩:=h1;simp [tbl]
  · rw [show tbl b8 b12 b18 true V1 V2 V3 V4 x y=tbl b8 b12 b18 false V1 V2 V3 V4 x y by simp [tbl,h1]];simp only [h1,if_false];cases tbl b8 b12 b18 false V1 V2 V3 V4 x y <;> rfl
set_option maxHeartbeats 8000000 in
theorem asks_region (w0:World) (g:Nat) (p1:List S51) (p2 p3:List S76) (d1:List S51) (d2 d3:List S76) (a0:Int) (a1:ByteArray) (a2:Int) (a3 a4:ByteArray) (a5 a6 a7 a8 a9:Int) (pf:ByteArray)
    (hp:txn_Put.f a4 a3 0=some (p1,p2,p3)) (hd:txn_Drop.f a4 a7=some (d1,d2,d3)) {Q:Exit→Act→World→Prop} (hP:∀(c:List PanicEntry) (a:Act) (N:Option Tmp) (v:Value) (w:World),Q (.panic c) (a.put N v) w→Q (.panic c) a w)
    (hQ:∀v5 v11 v12 v26 v27 w,Iv w0 g p1 p2 p3 d1 d2 d3 a0 a1 a2 a3 a4 a5 a6 a7 a8 a9 pf true true true true true true true true true v5 v11 v12 v26 v27 w→Q .normal ⟨#[.agg #[.int .i64 a0,.string a1,.int .i64 a2,.string a3,.string a4,.int .i64 a5,.int .i64 a6,.int .i64 a7,.int .i64 a8,.int .i64 a9],.string pf,.pointer (some ⟨g,0,none⟩),undef,v5,v5,k2 7 1,.pointer (some ⟨g,4,none⟩),.string a4,.pointer (some ⟨g,3,none⟩),.string a3,v11,v12,k2 8 2,.string pf,rq2 pf,k2 8 3,.string pf,.pointer (some ⟨g,8,none⟩),.int .i64 a8,rq3 pf a8,k2 8 10,.pointer (some ⟨g,4,none⟩),.string a4,.pointer (some ⟨g,7,none⟩),.int .i64 a7,v26,v27,v5],[]⟩ w):
    ∀(n:Nat) (b0 b6 b7 b8 b12 b18 b24 b25 b26:Bool) (v5 v11 v12 v26 v27:Value) (w:World),left_ b0 b6 b7 b8 b12 b18 b24 b25 b26=n→Iv w0 g p1 p2 p3 d1 d2 d3 a0 a1 a2 a3 a4 a5 a6 a7 a8 a9 pf b0 b6 b7 b8 b12 b18 b24 b25 b26 v5 v11 v12 v26 v27 w→
      wpAnyLast Try.prog .any (opsOf Try.f21 1) Q (Sh g a3 a4 a7 a8) [] (n + 2) (st b0 b6 b7 b8 b12 b18 b24 b25 b26) ⟨#[.agg #[.int .i64 a0,.string a1,.int .i64 a2,.string a3,.string a4,.int .i64 a5,.int .i64 a6,.int .i64 a7,.int .i64 a8,.int .i64 a9],.string pf,.pointer (some ⟨g,0,none⟩),undef,.map none,v5,k2 7 1,.pointer (some ⟨g,4,none⟩),.string a4,.pointer (some ⟨g,3,none⟩),.string a3,v11,v12,k2 8 2,.string pf,rq2 pf,k2 8 3,.string pf,.pointer (some ⟨g,8,none⟩),.int .i64 a8,rq3 pf a8,k2 8 10,.pointer (some ⟨g,4,none⟩),.string a4,.pointer (some ⟨g,7,none⟩),.int .i64 a7,v26,v27,undef],[]⟩ w:=by
  intro n
  induction n with
  |zero=>
    intro b0 b6 b7 b8 b12 b18 b24 b25 b26 v5 v11 v12 v26 v27 w hl hI
    obtain⟨rfl,rfl,rfl,rfl,rfl,rfl,rfl,rfl,rfl⟩:b0=true∧b6=true∧b7=true∧b8=true∧b12=true∧b18=true∧b24=true∧b25=true∧b26=true:=by
      revert hl;unfold left_;clear hI;cases b0 <;> cases b6 <;> cases b7 <;> cases b8 <;> cases b12 <;> cases b18 <;> cases b24 <;> cases b25 <;> cases b26 <;> simp [List.countP_cons]
    have HT_:=Aside0.mk asks_tab
    show wpAnyLast Try.prog .any (opsOf Try.f21 1) Q (Sh g a3 a4 a7 a8) [] 2 (My.bl 29 134217727) _ w
    refine My.pu (v:=v5) 27 28 268435455 HT_ ?_ (hy:=fun w1=> rfl) (hQ:=fun c a w h=> hP c a _ _ w h)
    refine My.pu (v:=v5) 28 4 536870911 HT_ ?_ (hy:=fun w1=> rfl) (hQ:=fun c a w h=> hP c a _ _ w h)
    refine done_ (done_of HT_.out (by kernel_rfl)) ?_
    exact hQ _ _ _ _ _ _ hI
  |succ n ih=>
    intro b0 b6 b7 b8 b12 b18 b24 b25 b26 v5 v11 v12 v26 v27 w hl hI
    have hS:Sh g a3 a4 a7 a8 w:=Sh.of a0 a1 a2 a3 a4 a5 a6 a7 a8 a9 pf hI.box
    refine⟨fun h=> ?_,fun i hi=> ?_⟩
    · exact absurd h (rdyN b0 b6 b7 b8 b12 b18 b24 b25 b26 (by omega))
    have hc:=rdy b0 b6 b7 b8 b12 b18 b24 b25 b26 hi
    simp only [cond_,Bool.or_eq_true,Bool.and_eq_true,beq_iff_eq,Bool.not_eq_true'] at hc
    rcases hc with ((((((((hc|hc)|hc)|hc)|hc)|hc)|hc)|hc)|hc)|hc
    · obtain⟨rfl,rfl⟩:=hc
      have hz:b8=false∧b12=false∧b18=false∧b26=false:=by
        exact⟨Bool.eq_false_iff.2 (fun h=> Bool.false_ne_true (hI.c0 (.inl h))),Bool.eq_false_iff.2 (fun h=> Bool.false_ne_true (hI.c0 (.inr (.inl h)))),Bool.eq_false_iff.2 (fun h=> Bool.false_ne_true (hI.c0 (.inr (.inr (.inl h))))),Bool.eq_false_iff.2 (fun h=> Bool.false_ne_true (hI.c0 (.inr (.inr (.inr h)))))⟩
      obtain⟨rfl,rfl,rfl,rfl⟩:=hz
      have hb:=below_alloc (Below.refl w.heap.size w) (.map #[] 0)
      have hkp:=Kp.of_below hb
      have hbx:=blk_kp hI.box hkp
      refine wpOp_step rfl (fun K hK=> event_step (v:= .map (some w.heap.size)) (w1:=w.alloc (.map #[] 0)) rfl (by rfl) ?_)
      refine hK _ _ ⟨fun _ _=> Sh.of a0 a1 a2 a3 a4 a5 a6 a7 a8 a9 pf hbx,?_⟩
      exact ih true b6 b7 false false false b24 b25 false _ _ _ _ _ _ (by simp only [left_,List.countP_cons,List.countP_nil,Bool.not_true,Bool.not_false,if_true,Bool.false_eq_true,if_false] at hl⊢;omega) ⟨below_step hI.below hb,hbx,fun _=> ⟨_,[],0,rfl,hI.below.size,blk_new w _,fun x y=> by simp [look,tbl]⟩,fun h=> (hI.p6 h).kp hkp,hI.p7,fun h=> (hI.p24 h).kp hkp,hI.p25,hI.c8,hI.c26,hI.c7,hI.c25,fun _=> rfl⟩
    · obtain⟨rfl,rfl⟩:=hc
      have h7:b7=false:=Bool.eq_false_iff.2 (fun h=> Bool.false_ne_true (hI.c7 h))
      subst h7
      refine wpOp_step rfl (fun K hK=> ?_)
      refine goes_ Try.func39 (by kernel_rfl) rfl #[.string a4,.string a3,.int .i64 0] (by rfl) rfl rfl My.ar ?_
      refine(txn_Put.calls a4 a3 0 p1 p2 p3 w hp).mono ?_
      rintro e w1 ⟨v0,v1,v2,rfl,h0,h1,h2,hb⟩
      obtain⟨A0,c0,rfl⟩:=Kd.R_slice h0
      obtain⟨A1,c1,rfl⟩:=Kd.R_slice h1
      obtain⟨A2,c2,rfl⟩:=Kd.R_slice h2
      have hkp:=Kp.of_below hb
      have hbx:=blk_kp hI.box hkp
      refine⟨_,rfl,hK _ _ ⟨fun _ _=> Sh.of a0 a1 a2 a3 a4 a5 a6 a7 a8 a9 pf hbx,?_⟩⟩
      exact ih b0 true false b8 b12 b18 b24 b25 b26 _ _ _ _ _ _ (by simp only [left_,List.countP_cons,List.countP_nil,Bool.not_true,Bool.not_false,if_true,Bool.false_eq_true,if_false] at hl⊢;omega) ⟨below_step hI.below hb,hbx,fun h=> by obtain⟨b,D,c,e1,e2,e3,e4⟩:=hI.mp h;exact⟨b,D,c,e1,e2,(hb.block b (blk_lt e3)).trans e3,e4⟩,fun _=> ⟨A0,c0,A1,c1,A2,c2,rfl,Kd.R_lower h0 hI.below.size,Kd.R_lower h1 hI.below.size,Kd.R_lower h2 hI.below.size⟩,fun h=> by simp at h,fun h=> (hI.p24 h).kp hkp,hI.p25,hI.c8,hI.c26,fun _=> rfl,hI.c25,hI.c0⟩
    · obtain⟨⟨rfl,rfl⟩,hb6⟩:=hc
      have h8:b8=false:=Bool.eq_false_iff.2 (fun h=> Bool.false_ne_true (hI.c8 h))
      subst h8
      have hT:=hI.p6 hb6
      obtain⟨A0,c0,A1,c1,A2,c2,e11,hT0⟩:=hT.ex
      clear hT0
      subst e11
      refine wpOp_step rfl (fun K hK=> ?_)
      refine goes_ Try.func38 (by kernel_rfl) rfl #[.agg #[.slice A0 p1.length c0,.slice A1 p2.length c1,.slice A2 p3.length c2]] (by rfl) rfl rfl My.ar ?_
      refine(change1 _ _ _ _ _ _ _ _ _ w).mono ?_
      rintro e w1 ⟨rfl,hb⟩
      have hkp:=Kp.of_below hb
      have hbx:=blk_kp hI.box hkp
      refine⟨_,rfl,hK _ _ ⟨fun _ _=> Sh.of a0 a1 a2 a3 a4 a5 a6 a7 a8 a9 pf hbx,?_⟩⟩
      exact ih b0 b6 true false b12 b18 b24 b25 b26 _ _ _ _ _ _ (by simp only [left_,List.countP_cons,List.countP_nil,Bool.not_true,Bool.not_false,if_true,Bool.false_eq_true,if_false] at hl⊢;omega) ⟨below_step hI.below hb,hbx,fun h=> by obtain⟨b,D,c,e1,e2,e3,e4⟩:=hI.mp h;exact⟨b,D,c,e1,e2,(hb.block b (blk_lt e3)).trans e3,fun x y=> by rw [e4];simp [tbl]⟩,fun h=> hT.kp hkp,fun _=> rfl,fun h=> (hI.p24 h).kp hkp,hI.p25,fun h=> rfl,hI.c26,fun _=> hb6,hI.c25,hI.c0⟩
    · obtain⟨⟨⟨rfl,rfl⟩,hb0_⟩,hb7_⟩:=hc
      have hb0:=hb0_
      obtain⟨b,D,c,hv5,hbs,hbm,hlk⟩:=hI.mp hb0
      subst hv5
      obtain⟨w1,hr,hb1,hg⟩:=upd b 0 0 7 1 v12 w D c hbm (by rw [hlk];simp [tbl])
      have hkp:=Kp.of_map hbm hg
      have hbx:=blk_kp hI.box hkp
      refine wpOp_step rfl (fun K hK=> skip_ (w1:=w1) rfl rfl (by show Sem.run _ (Instr.mapUpdate 55 (.map (some b)) (k2 7 1) v12 >>= _) w=_;rw [Sem.run_bind,hr];rfl) ?_)
      refine hK _ _ ⟨fun _ _=> Sh.of a0 a1 a2 a3 a4 a5 a6 a7 a8 a9 pf hbx,?_⟩
      exact ih b0 b6 b7 true b12 b18 b24 b25 b26 _ _ _ _ _ _ (by simp only [left_,List.countP_cons,List.countP_nil,Bool.not_true,Bool.not_false,if_true,Bool.false_eq_true,if_false] at hl⊢;omega) ⟨My.below_grown' hI.below hg hbs,hbx,fun _=> ⟨b,_,_,rfl,hbs,hb1,fun x y=> by rw [look_app,hlk];exact tbl1 _ _ _ _ _ _ _ _ _⟩,fun h=> (hI.p6 h).kp hkp,hI.p7,fun h=> (hI.p24 h).kp hkp,hI.p25,fun _=> hb7_,hI.c26,hI.c7,hI.c25,fun _=> hb0⟩
    · obtain⟨⟨rfl,rfl⟩,hb0_⟩:=hc
      have hb0:=hb0_
      obtain⟨b,D,c,hv5,hbs,hbm,hlk⟩:=hI.mp hb0
      subst hv5
      obtain⟨w1,hr,hb1,hg⟩:=upd b 0 0 8 2 (rq2 pf) w D c hbm (by rw [hlk];simp [tbl])
      have hkp:=Kp.of_map hbm hg
      have hbx:=blk_kp hI.box hkp
      refine wpOp_step rfl (fun K hK=> skip_ (w1:=w1) rfl rfl (by show Sem.run _ (Instr.mapUpdate 55 (.map (some b)) (k2 8 2) (rq2 pf) >>= _) w=_;rw [Sem.run_bind,hr];rfl) ?_)
      refine hK _ _ ⟨fun _ _=> Sh.of a0 a1 a2 a3 a4 a5 a6 a7 a8 a9 pf hbx,?_⟩
      exact ih b0 b6 b7 b8 true b18 b24 b25 b26 _ _ _ _ _ _ (by simp only [left_,List.countP_cons,List.countP_nil,Bool.not_true,Bool.not_false,if_true,Bool.false_eq_true,if_false] at hl⊢;omega) ⟨My.below_grown' hI.below hg hbs,hbx,fun _=> ⟨b,_,_,rfl,hbs,hb1,fun x y=> by rw [look_app,hlk];exact tbl2 _ _ _ _ _ _ _ _ _⟩,fun h=> (hI.p6 h).kp hkp,hI.p7,fun h=> (hI.p24 h).kp hkp,hI.p25,hI.c8,hI.c26,hI.c7,hI.c25,fun _=> hb0⟩
    · obtain⟨⟨rfl,rfl⟩,hb0_⟩:=hc
      have hb0:=hb0_
      obtain⟨b,D,c,hv5,hbs,hbm,hlk⟩:=hI.mp hb0
      subst hv5
      obtain⟨w1,hr,hb1,hg⟩:=upd b 0 0 8 3 (rq3 pf a8) w D c hbm (by rw [hlk];simp [tbl])
      have hkp:=Kp.of_map hbm hg
      have hbx:=blk_kp hI.box hkp
      refine wpOp_step rfl (fun K hK=> skip_ (w1:=w1) rfl rfl (by show Sem.run _ (Instr.mapUpdate 55 (.map (some b)) (k2 8 3) (rq3 pf a8) >>= _) w=_;rw [Sem.run_bind,hr];rfl) ?_)
      refine hK _ _ ⟨fun _ _=> Sh.of a0 a1 a2 a3 a4 a5 a6 a7 a8 a9 pf hbx,?_⟩
      exact ih b0 b6 b7 b8 b12 true b24 b25 b26 _ _ _ _ _ _ (by simp only [left_,List.countP_cons,List.countP_nil,Bool.not_true,Bool.not_false,if_true,Bool.false_eq_true,if_false] at hl⊢;omega) ⟨My.below_grown' hI.below hg hbs,hbx,fun _=> ⟨b,_,_,rfl,hbs,hb1,fun x y=> by rw [look_app,hlk];exact tbl3 _ _ _ _ _ _ _ _ _⟩,fun h=> (hI.p6 h).kp hkp,hI.p7,fun h=> (hI.p24 h).kp hkp,hI.p25,hI.c8,hI.c26,hI.c7,hI.c25,fun _=> hb0⟩
    · obtain⟨⟨rfl,rfl⟩,hb7⟩:=hc
      have h25:b25=false:=Bool.eq_false_iff.2 (fun h=> Bool.false_ne_true (hI.c25 h))
      subst h25
      refine wpOp_step rfl (fun K hK=> ?_)
      refine goes_ Try.func40 (by kernel_rfl) rfl #[.string a4,.int .i64 a7] (by rfl) rfl rfl My.ar ?_
      refine(txn_Drop.calls a4 a7 d1 d2 d3 w hd).mono ?_
      rintro e w1 ⟨v0,v1,v2,rfl,h0,h1,h2,hb⟩
      obtain⟨A0,c0,rfl⟩:=Kd.R_slice h0
      obtain⟨A1,c1,rfl⟩:=Kd.R_slice h1
      obtain⟨A2,c2,rfl⟩:=Kd.R_slice h2
      have hkp:=Kp.of_below hb
      have hbx:=blk_kp hI.box hkp
      refine⟨_,rfl,hK _ _ ⟨fun _ _=> Sh.of a0 a1 a2 a3 a4 a5 a6 a7 a8 a9 pf hbx,?_⟩⟩
      exact ih b0 b6 b7 b8 b12 b18 true false b26 _ _ _ _ _ _ (by simp only [left_,List.countP_cons,List.countP_nil,Bool.not_true,Bool.not_false,if_true,Bool.false_eq_true,if_false] at hl⊢;omega) ⟨below_step hI.below hb,hbx,fun h=> by obtain⟨b,D,c,e1,e2,e3,e4⟩:=hI.mp h;exact⟨b,D,c,e1,e2,(hb.block b (blk_lt e3)).trans e3,e4⟩,fun h=> (hI.p6 h).kp hkp,hI.p7,fun _=> ⟨A0,c0,A1,c1,A2,c2,rfl,Kd.R_lower h0 hI.below.size,Kd.R_lower h1 hI.below.size,Kd.R_lower h2 hI.below.size⟩,fun h=> by simp at h,hI.c8,hI.c26,hI.c7,fun _=> rfl,hI.c0⟩
    · obtain⟨⟨rfl,rfl⟩,hb24⟩:=hc
      have h26:b26=false:=Bool.eq_false_iff.2 (fun h=> Bool.false_ne_true (hI.c26 h))
      subst h26
      have hT:=hI.p24 hb24
      obtain⟨A0,c0,A1,c1,A2,c2,e26,hT0⟩:=hT.ex
      clear hT0
      subst e26
      refine wpOp_step rfl (fun K hK=> ?_)
      refine goes_ Try.func38 (by kernel_rfl) rfl #[.agg #[.slice A0 d1.length c0,.slice A1 d2.length c1,.slice A2 d3.length c2]] (by rfl) rfl rfl My.ar ?_
      refine(change1 _ _ _ _ _ _ _ _ _ w).mono ?_
      rintro e w1 ⟨rfl,hb⟩
      have hkp:=Kp.of_below hb
      have hbx:=blk_kp hI.box hkp
      refine⟨_,rfl,hK _ _ ⟨fun _ _=> Sh.of a0 a1 a2 a3 a4 a5 a6 a7 a8 a9 pf hbx,?_⟩⟩
      exact ih b0 b6 b7 b8 b12 b18 b24 true false _ _ _ _ _ _ (by simp only [left_,List.countP_cons,List.countP_nil,Bool.not_true,Bool.not_false,if_true,Bool.false_eq_true,if_false] at hl⊢;omega) ⟨below_step hI.below hb,hbx,fun h=> by obtain⟨b,D,c,e1,e2,e3,e4⟩:=hI.mp h;exact⟨b,D,c,e1,e2,(hb.block b (blk_lt e3)).trans e3,fun x y=> by rw [e4];simp [tbl]⟩,fun h=> (hI.p6 h).kp hkp,hI.p7,fun h=> hT.kp hkp,fun _=> rfl,hI.c8,fun h=> rfl,hI.c7,fun _=> hb24,hI.c0⟩
    · obtain⟨⟨⟨rfl,rfl⟩,hb0_⟩,hb25_⟩:=hc
      have hb0:=hb0_
      obtain⟨b,D,c,hv5,hbs,hbm,hlk⟩:=hI.mp hb0
      subst hv5
      obtain⟨w1,hr,hb1,hg⟩:=upd b 0 0 8 10 v27 w D c hbm (by rw [hlk];simp [tbl])
      have hkp:=Kp.of_map hbm hg
      have hbx:=blk_kp hI.box hkp
      refine wpOp_step rfl (fun K hK=> skip_ (w1:=w1) rfl rfl (by show Sem.run _ (Instr.mapUpdate 55 (.map (some b)) (k2 8 10) v27 >>= _) w=_;rw [Sem.run_bind,hr];rfl) ?_)
      refine hK _ _ ⟨fun _ _=> Sh.of a0 a1 a2 a3 a4 a5 a6 a7 a8 a9 pf hbx,?_⟩
      exact ih b0 b6 b7 b8 b12 b18 b24 b25 true _ _ _ _ _ _ (by simp only [left_,List.countP_cons,List.countP_nil,Bool.not_true,Bool.not_false,if_true,Bool.false_eq_true,if_false] at hl⊢;omega) ⟨My.below_grown' hI.below hg hbs,hbx,fun _=> ⟨b,_,_,rfl,hbs,hb1,fun x y=> by rw [look_app,hlk];exact tbl4 _ _ _ _ _ _ _ _ _⟩,fun h=> (hI.p6 h).kp hkp,hI.p7,fun h=> (hI.p24 h).kp hkp,hI.p25,hI.c8,fun _=> hb25_,hI.c7,hI.c25,fun _=> hb0⟩
    · obtain⟨⟨⟨⟨⟨⟨⟨⟨⟨rfl,rfl⟩,rfl⟩,rfl⟩,rfl⟩,rfl⟩,rfl⟩,rfl⟩,rfl⟩,rfl⟩:=hc
      simp [left_] at hl

set_option maxHeartbeats 8000000 in
set_option maxRecDepth 100000 in
theorem asks_calls (w:World) (p1:List S51) (p2 p3:List S76) (d1:List S51) (d2 d3:List S76) (a0:Int) (a1:ByteArray) (a2:Int) (a3 a4:ByteArray) (a5 a6 a7 a8 a9:Int) (pf:ByteArray)
    (hp:txn_Put.f a4 a3 0=some (p1,p2,p3)) (hd:txn_Drop.f a4 a7=some (d1,d2,d3)):
    Calls Try.prog 21 #[.agg #[.int .i64 a0,.string a1,.int .i64 a2,.string a3,.string a4,.int .i64 a5,.int .i64 a6,.int .i64 a7,.int .i64 a8,.int .i64 a9],.string pf] w fun e w'=> ∃g v5 v11 v12 v26 v27,e= .returned v5∧Iv w g p1 p2 p3 d1 d2 d3 a0 a1 a2 a3 a4 a5 a6 a7 a8 a9 pf true true true true true true true true true v5 v11 v12 v26 v27 w':=by
  have hu24:=Try.underlying24
  have HB:=Aside0.mk (Below.refl w.heap.size w)
  go_enter Try.func21,Try.ntmps21
  go_wp2_with (first|((with_reducible refine gate_dst (N:=2) rfl ?_);refine My.be 2 24 #[.int .i64 a0,.string a1,.int .i64 a2,.string a3,.string a4,.int .i64 a5,.int .i64 a6,.int .i64 a7,.int .i64 a8,.int .i64 a9] ?_;intro g hg w2 hbox hb;have BK:=My.m hbox;replace HB:=My.m (below_step My.bB hb);clear hb hbox hg))
  have BKD:=My.m (blk_drew BK.out)
  have HBD:=My.m (below_drew1 HB.out)
  refine start_ (n:=29) (S:=Sh g a3 a4 a7 a8) (ds:= []) (My.bl 29 0) (by kernel_rfl) rfl (by kernel_rfl) (Sh.of a0 a1 a2 a3 a4 a5 a6 a7 a8 a9 pf BKD.out) (fun hHeld=> ?_)
  refine with_tabW asks_tab asks_bits (fun HT_ HW_=> ?_)
  refine My.pu 1 6 2 HT_ ?_;refine My.pu 2 7 6 HT_ ?_;refine My.tk 3 8 14 HT_ HW_ hHeld ?_;refine My.pu 4 9 30 HT_ ?_;refine My.tk 5 10 62 HT_ HW_ hHeld ?_;refine My.pu 9 13 574 HT_ ?_;refine My.pu 10 14 1598 HT_ ?_;refine My.pu 11 15 3646 HT_ ?_;refine My.pu 13 16 11838 HT_ ?_;refine My.pu 14 17 28222 HT_ ?_;refine My.pu 15 18 60990 HT_ ?_;refine My.tk 16 19 126526 HT_ HW_ hHeld ?_;refine My.pu 17 20 257598 HT_ ?_;refine My.pu 19 21 781886 HT_ ?_;refine My.pu 20 22 1830462 HT_ ?_;refine My.tk 21 23 3927614 HT_ HW_ hHeld ?_;refine My.pu 22 24 8121918 HT_ ?_;refine My.tk 23 25 16510526 HT_ HW_ hHeld ?_
  refine asks_region w g p1 p2 p3 d1 d2 d3 a0 a1 a2 a3 a4 a5 a6 a7 a8 a9 pf hp hd (fun _ _ N _ _ h=> by cases N <;> exact h) (fun v5 v11 v12 v26 v27 w3 hI=> ?_) 9 false false false false false false false false false undef undef undef undef undef _ rfl ⟨HBD.out,BKD.out,fun h=> by simp at h,fun h=> by simp at h,fun h=> by simp at h,fun h=> by simp at h,fun h=> by simp at h,fun h=> by simp at h,fun h=> by simp at h,fun h=> by simp at h,fun h=> by simp at h,fun h=> by simp at h⟩
  go_wp2
  go_ret
  exact⟨g,v5,v11,v12,v26,v27,rfl,hI⟩

def ask4T:Bool×List (List Nat×List Nat):=(true,[([],[]),([],[]),([0,1],[0,1]),([],[]),([3,2],[3]),([2,4],[2,4]),([5],[5]),([6],[6]),([6],[6]),([],[]),([9,7,4,0,1,2,3,4,5,6,7,9],[7,9]),([8,10,0,1,2,3,4,5,6,7,8,9,10],[8])])
def ask4B:List Nat:= [0,0,3,0,15,31,63,127,127,0,767,2047]
theorem ask4_tab:rtab .any (opsOf Try.f9 4)=ask4T:=by kernel_rfl
theorem ask4_bits:waitsOk ask4T.2 ask4B=true:=by kernel_rfl
def st4 (b2 b4 b5 b9:Bool):Array Bool:= #[true,true,b2,true,b4,b5,b5,b5,b5,b9,false,false]
def cond4 (b2 b4 b5 b9:Bool) (i:Nat):Bool:=(i == 2 && !b2) || (i == 4 && !b4 && b2) || (i == 5 && !b5 && b4) || (i == 9 && !b9) || (i == 10 && b2 && b4 && b5 && b9)
def left4 (b2 b4 b5 b9:Bool):Nat:= [b2,b4,b5,b5,b5,b5,b9].countP (fun b=> !b)
def rdy4T:Bool:= [true,false].all fun b2=> [true,false].all fun b4=> [true,false].all fun b5=> [true,false].all fun b9=> (readyT ask4T.2 (st4 b2 b4 b5 b9).toList).all (cond4 b2 b4 b5 b9) && (left4 b2 b4 b5 b9 == 0 || !((readyT ask4T.2 (st4 b2 b4 b5 b9).toList) == []))
theorem rdy4T_ok:rdy4T=true:=by kernel_rfl
theorem rdy4 (b2 b4 b5 b9:Bool):((readyT ask4T.2 (st4 b2 b4 b5 b9).toList).all (cond4 b2 b4 b5 b9) && (left4 b2 b4 b5 b9 == 0 || !((readyT ask4T.2 (st4 b2 b4 b5 b9).toList) == [])))=true:=
  allB (allB (allB (allB rdy4T_ok b2) b4) b5) b9
abbrev zq:Value:= .agg #[.int .i64 0,.int .i64 0,.int .i64 0,.bool false,.string ⟨#[]⟩,.string ⟨#[]⟩,.int .i64 0,.int .i64 0,.int .i64 0,.int .i64 0,.slice none 0 0,.slice none 0 0,.slice none 0 0]
def Rt (v11 v26:Value) (pf:ByteArray) (a8 x y:Int):Option Value:=tbl true true true true (rqOf v11) (rq2 pf) (rq3 pf a8) (rqOf v26) x y
structure Jv (w0:World) (gm gr:Nat) (p1:List S51) (p2 p3:List S76) (d1:List S51) (d2 d3:List S76) (a0:Int) (a1:ByteArray) (a2:Int) (a3 a4:ByteArray) (a5 a6 a7 a8 a9:Int) (pf:ByteArray) (b2 b4 b5 b9:Bool) (v31 v33 v34 v28 v35 v36 v6 v11 v26:Value) (w:World):Prop where
  below:Below w0.heap.size w0 w
  box:w.heap[gm]? =some (Obj.cells #[.int .i64 a0,.string a1,.int .i64 a2,.string a3,.string a4,.int .i64 a5,.int .i64 a6,.int .i64 a7,.int .i64 a8,.int .i64 a9] 24 (0,0))
  res:w.heap[gr]? =some (Obj.cells #[.int .i64 0,.int .i64 0,.int .i64 0,.bool false,.string ⟨#[]⟩,.string ⟨#[]⟩,.int .i64 0,.int .i64 0,.int .i64 0,.int .i64 0,.slice none 0 0,.slice none 0 0,.slice none 0 0] 34 (0,0))
  m2:b2=true→∃b D c,v31= .map (some b)∧w.heap[b]? =some (Obj.map (D.map Ent.mk').toArray c)∧∀x y,look D x y=Rt v11 v26 pf a8 x y
  t2:b2=true→Tx w0.heap.size p1 p2 p3 v11 w∧Tx w0.heap.size d1 d2 d3 v26 w
  m4:b4=true→v33=k2 a0 a6
  m7:b5=true→v35=(Rt v11 v26 pf a8 a0 a6).getD zq
  m8:b5=true→v36= .bool (Rt v11 v26 pf a8 a0 a6).isSome
  m9:b9=true→∃g6,v6= .pointer (some ⟨g6,0,none⟩)∧w.heap[g6]? =some (Obj.cells #[.int .i64 0,.int .i64 0,.int .i64 0,.bool false,.string ⟨#[]⟩,.string ⟨#[]⟩,.int .i64 0,.int .i64 0,.int .i64 0,.int .i64 0,.slice none 0 0,.slice none 0 0,.slice none 0 0] 34 (0,0))∧w0.heap.size≤g6∧g6≠gr
  c4:b4=true→b2=true
  c5:b5=true→b4=true
theorem Tx.lower {base base':Nat} {l0:List S51} {l1 l2:List S76} {v:Value} {w:World} (h:Tx base l0 l1 l2 v w) (hb:base'≤base):Tx base' l0 l1 l2 v w:=by
  obtain⟨A0,c0,A1,c1,A2,c2,rfl,h0,h1,h2⟩:=h.ex
  exact⟨A0,c0,A1,c1,A2,c2,rfl,Kd.R_lower h0 hb,Kd.R_lower h1 hb,Kd.R_lower h2 hb⟩
theorem Jv.kp {w0:World} {gm gr:Nat} {p1:List S51} {p2 p3:List S76} {d1:List S51} {d2 d3:List S76} {a0:Int} {a1:ByteArray} {a2:Int} {a3 a4:ByteArray} {a5 a6 a7 a8 a9:Int} {pf:ByteArray} {b2 b4 b5 b9:Bool} {v31 v33 v34 v28 v35 v36 v6 v11 v26:Value} {w w1:World} (h:Jv w0 gm gr p1 p2 p3 d1 d2 d3 a0 a1 a2 a3 a4 a5 a6 a7 a8 a9 pf b2 b4 b5 b9 v31 v33 v34 v28 v35 v36 v6 v11 v26 w) (hb:Below w.heap.size w w1):Jv w0 gm gr p1 p2 p3 d1 d2 d3 a0 a1 a2 a3 a4 a5 a6 a7 a8 a9 pf b2 b4 b5 b9 v31 v33 v34 v28 v35 v36 v6 v11 v26 w1:=
  have hk:=Kp.of_below hb
  ⟨below_step h.below hb,blk_kp h.box hk,blk_kp h.res hk,fun hh=> by obtain⟨b,D,c,e1,e2,e3⟩:=h.m2 hh;exact⟨b,D,c,e1,(hb.block b (blk_lt e2)).trans e2,e3⟩,fun hh=> ⟨(h.t2 hh).1.kp hk,(h.t2 hh).2.kp hk⟩,h.m4,h.m7,h.m8,fun hh=> by obtain⟨g6,e1,e2,e3⟩:=h.m9 hh;exact⟨g6,e1,blk_kp e2 hk,e3⟩,h.c4,h.c5⟩
set_option maxHeartbeats 8000000 in
theorem ask4_region (w0:World) (gm gr:Nat) (p1:List S51) (p2 p3:List S76) (d1:List S51) (d2 d3:List S76) (a0:Int) (a1:ByteArray) (a2:Int) (a3 a4:ByteArray) (a5 a6 a7 a8 a9:Int) (pf:ByteArray) (u0 u3 u4 u5 u7 u8 u9 u10 u11 u12 u13 u14 u15 u16 u17 u18 u19 u20 u21 u22 u23 u24 u25 u26 u27 u37 u38:Value)
    (hp:txn_Put.f a4 a3 0=some (p1,p2,p3)) (hd:txn_Drop.f a4 a7=some (d1,d2,d3)) {Q:Exit→Act→World→Prop} (hP:∀(c:List PanicEntry) (a:Act) (N:Option Tmp) (v:Value) (w:World),Q (.panic c) (a.put N v) w→Q (.panic c) a w) {S:World→Prop} (hS:∀w',w'.heap[gm]? =some (Obj.cells #[.int .i64 a0,.string a1,.int .i64 a2,.string a3,.string a4,.int .i64 a5,.int .i64 a6,.int .i64 a7,.int .i64 a8,.int .i64 a9] 24 (0,0))→S w')
    (hQ:∀(v31 v33 v34 v28 v35 v36 v6 v11 v26:Value) w,Jv w0 gm gr p1 p2 p3 d1 d2 d3 a0 a1 a2 a3 a4 a5 a6 a7 a8 a9 pf true true true true v31 v33 v34 v28 v35 v36 v6 v11 v26 w→wpAnyLast Try.prog .any (opsOf Try.f9 4) Q S [] 2 (st4 true true true true) ⟨#[u0,.pointer (some ⟨gm,0,none⟩),.pointer (some ⟨gr,0,none⟩),u3,u4,u5,v6,u7,u8,u9,u10,u11,u12,u13,u14,u15,u16,u17,u18,u19,u20,u21,u22,u23,u24,u25,u26,u27,v28,.agg #[.int .i64 a0,.string a1,.int .i64 a2,.string a3,.string a4,.int .i64 a5,.int .i64 a6,.int .i64 a7,.int .i64 a8,.int .i64 a9],.string pf,v31,.agg #[.int .i64 a0,.string a1,.int .i64 a2,.string a3,.string a4,.int .i64 a5,.int .i64 a6,.int .i64 a7,.int .i64 a8,.int .i64 a9],v33,v34,v35,v36,u37,u38],[]⟩ w):
    ∀(n:Nat) (b2 b4 b5 b9:Bool) (v31 v33 v34 v28 v35 v36 v6 v11 v26:Value) (w:World),left4 b2 b4 b5 b9=n→Jv w0 gm gr p1 p2 p3 d1 d2 d3 a0 a1 a2 a3 a4 a5 a6 a7 a8 a9 pf b2 b4 b5 b9 v31 v33 v34 v28 v35 v36 v6 v11 v26 w→
      wpAnyLast Try.prog .any (opsOf Try.f9 4) Q S [] (n + 2) (st4 b2 b4 b5 b9) ⟨#[u0,.pointer (some ⟨gm,0,none⟩),.pointer (some ⟨gr,0,none⟩),u3,u4,u5,v6,u7,u8,u9,u10,u11,u12,u13,u14,u15,u16,u17,u18,u19,u20,u21,u22,u23,u24,u25,u26,u27,v28,.agg #[.int .i64 a0,.string a1,.int .i64 a2,.string a3,.string a4,.int .i64 a5,.int .i64 a6,.int .i64 a7,.int .i64 a8,.int .i64 a9],.string pf,v31,.agg #[.int .i64 a0,.string a1,.int .i64 a2,.string a3,.string a4,.int .i64 a5,.int .i64 a6,.int .i64 a7,.int .i64 a8,.int .i64 a9],v33,v34,v35,v36,u37,u38],[]⟩ w:=by
  intro n
  induction n using Nat.strongRecOn with
  |_ n IH=>
  cases n with
  |zero=>
    intro b2 b4 b5 b9 v31 v33 v34 v28 v35 v36 v6 v11 v26 w hl hI
    obtain⟨rfl,rfl,rfl,rfl⟩:b2=true∧b4=true∧b5=true∧b9=true:=by
      revert hl;unfold left4;clear hI hQ;cases b2 <;> cases b4 <;> cases b5 <;> cases b9 <;> simp [List.countP_cons]
    exact hQ _ _ _ _ _ _ _ _ _ w hI
  |succ n=>
    have ih:=IH n (Nat.lt_succ_self n)
    intro b2 b4 b5 b9 v31 v33 v34 v28 v35 v36 v6 v11 v26 w hl hI
    have hr:=rdy4 b2 b4 b5 b9
    rw [Bool.and_eq_true] at hr
    refine⟨fun h=> ?_,fun i hi=> ?_⟩
    · rw [ready_eq,ask4_tab] at h
      have h2:=hr.2
      rw [h] at h2
      simp at h2
      omega
    have hc:cond4 b2 b4 b5 b9 i=true:=by
      rw [ready_eq,ask4_tab] at hi
      exact List.all_eq_true.1 hr.1 i hi
    simp only [cond4,Bool.or_eq_true,Bool.and_eq_true,beq_iff_eq,Bool.not_eq_true'] at hc
    rcases hc with (((hc|hc)|hc)|hc)|hc
    · obtain⟨rfl,rfl⟩:=hc
      have h4:b4=false:=Bool.eq_false_iff.2 (fun h=> Bool.false_ne_true (hI.c4 h))
      subst h4
      have h5:b5=false:=Bool.eq_false_iff.2 (fun h=> Bool.false_ne_true (hI.c5 h))
      subst h5
      refine wpOp_step rfl (fun K hK=> ?_)
      refine goes_ Try.func21 (by kernel_rfl) rfl #[.agg #[.int .i64 a0,.string a1,.int .i64 a2,.string a3,.string a4,.int .i64 a5,.int .i64 a6,.int .i64 a7,.int .i64 a8,.int .i64 a9],.string pf] (by rfl) rfl rfl My.ar ?_
      refine(asks_calls w p1 p2 p3 d1 d2 d3 a0 a1 a2 a3 a4 a5 a6 a7 a8 a9 pf hp hd).mono ?_
      rintro e w1 ⟨g,v5,x11,x12,x26,x27,rfl,hV⟩
      obtain⟨b,D,c,e1,e2,e3,e4⟩:=hV.mp rfl
      have hb:=hV.below
      have hJ:=hI.kp hb
      have hle:=hI.below.size
      have hp6:=hV.p6 rfl
      have hp24:=hV.p24 rfl
      have e12:=hV.p7 rfl
      have e27:=hV.p25 rfl
      refine⟨_,rfl,hK _ _ ⟨fun _ _=> hS _ hJ.box,?_⟩⟩
      exact ih true false false b9 v5 v33 v34 v28 v35 v36 v6 x11 x26 _ (by simp only [left4,List.countP_cons,List.countP_nil,Bool.not_true,Bool.not_false,if_true,Bool.false_eq_true,if_false] at hl⊢;omega) ⟨hJ.below,hJ.box,hJ.res,fun _=> ⟨b,D,c,e1,e3,fun x y=> by rw [e4,e12,e27];rfl⟩,fun _=> ⟨hp6.lower hle,hp24.lower hle⟩,fun h=> by simp at h,fun h=> by simp at h,fun h=> by simp at h,hJ.m9,fun h=> rfl,fun h=> by simp at h⟩
    · obtain⟨⟨rfl,rfl⟩,hb2⟩:=hc
      have h5:b5=false:=Bool.eq_false_iff.2 (fun h=> Bool.false_ne_true (hI.c5 h))
      subst h5
      refine wpOp_step rfl (fun K hK=> ?_)
      refine goes_ Try.func22 (by kernel_rfl) rfl #[.agg #[.int .i64 a0,.string a1,.int .i64 a2,.string a3,.string a4,.int .i64 a5,.int .i64 a6,.int .i64 a7,.int .i64 a8,.int .i64 a9]] (by rfl) rfl rfl My.ar ?_
      refine(queue_at.calls a0 a1 a2 a3 a4 a5 a6 a7 a8 a9 a0 a6 w rfl).mono ?_
      rintro e w1 ⟨rfl,hb⟩
      have hJ:=hI.kp hb
      refine⟨_,rfl,hK _ _ ⟨fun _ _=> hS _ hJ.box,?_⟩⟩
      exact ih b2 true false b9 v31 (k2 a0 a6) v34 v28 v35 v36 v6 v11 v26 _ (by simp only [left4,List.countP_cons,List.countP_nil,Bool.not_true,Bool.not_false,if_true,Bool.false_eq_true,if_false] at hl⊢;omega) ⟨hJ.below,hJ.box,hJ.res,hJ.m2,hJ.t2,fun _=> rfl,fun h=> by simp at h,fun h=> by simp at h,hJ.m9,fun _=> hb2,fun h=> rfl⟩
    · obtain⟨⟨rfl,rfl⟩,hb4⟩:=hc
      have e33:=hI.m4 hb4
      subst e33
      obtain⟨b,D,c,e1,e2,e3⟩:=hI.m2 (hI.c4 hb4)
      subst e1
      have hr:=lkp b a0 a6 w D c e2
      rw [e3] at hr
      refine wpOp_step rfl (fun K hK=> event_step (v:= .tuple #[(Rt v11 v26 pf a8 a0 a6).getD zq,.bool (Rt v11 v26 pf a8 a0 a6).isSome]) (w1:=w) rfl (by show Sem.run _ (Instr.lookup 55 (.map (some b)) (k2 a0 a6) true >>= _) w=_;rw [Sem.run_bind,hr];rfl) ?_)
      refine hK _ _ ⟨fun _ h=> h,?_⟩
      have hb2:=hI.c4 hb4
      subst hb2 hb4
      obtain⟨m,rfl⟩:∃m,n=m + 3:=⟨n - 3,by simp only [left4,List.countP_cons,List.countP_nil,Bool.not_true,Bool.not_false,if_true,Bool.false_eq_true,if_false] at hl;omega⟩
      refine pure_ (i:=6) (N:=some 28) (v:= .tuple #[(Rt v11 v26 pf a8 a0 a6).getD zq,.bool (Rt v11 v26 pf a8 a0 a6).isSome]) #[true,true,true,true,true,true,true,false,false,b9,false,false] rfl rfl (any_of ask4_tab (by cases b9 <;> kernel_rfl)) (fun c a w h=> hP c a _ _ w h) (Or.inl ⟨rfl,fun w'=> rfl⟩) rfl ?_
      refine pure_ (i:=7) (N:=some 35) (v:=(Rt v11 v26 pf a8 a0 a6).getD zq) #[true,true,true,true,true,true,true,true,false,b9,false,false] rfl rfl (any_of ask4_tab (by cases b9 <;> kernel_rfl)) (fun c a w h=> hP c a _ _ w h) (Or.inl ⟨rfl,fun w'=> rfl⟩) rfl ?_
      refine pure_ (i:=8) (N:=some 36) (v:= .bool (Rt v11 v26 pf a8 a0 a6).isSome) #[true,true,true,true,true,true,true,true,true,b9,false,false] rfl rfl (any_of ask4_tab (by cases b9 <;> kernel_rfl)) (fun c a w h=> hP c a _ _ w h) (Or.inl ⟨rfl,fun w'=> rfl⟩) rfl ?_
      exact IH m (by omega) true true true b9 (.map (some b)) (k2 a0 a6) _ _ _ _ v6 v11 v26 _ (by simp only [left4,List.countP_cons,List.countP_nil,Bool.not_true,Bool.not_false,if_true,Bool.false_eq_true,if_false] at hl⊢;omega) ⟨hI.below,hI.box,hI.res,hI.m2,hI.t2,hI.m4,fun _=> rfl,fun h=> rfl,hI.m9,hI.c4,fun _=> rfl⟩
    · obtain⟨rfl,rfl⟩:=hc
      have hb:=below_alloc (Below.refl w.heap.size w) (.cells #[.int .i64 0,.int .i64 0,.int .i64 0,.bool false,.string ⟨#[]⟩,.string ⟨#[]⟩,.int .i64 0,.int .i64 0,.int .i64 0,.int .i64 0,.slice none 0 0,.slice none 0 0,.slice none 0 0] 34 (0,0))
      have hJ:=hI.kp hb
      refine wpOp_step rfl (fun K hK=> event_step (v:= .pointer (some ⟨w.heap.size,0,none⟩)) (w1:=w.alloc (.cells #[.int .i64 0,.int .i64 0,.int .i64 0,.bool false,.string ⟨#[]⟩,.string ⟨#[]⟩,.int .i64 0,.int .i64 0,.int .i64 0,.int .i64 0,.slice none 0 0,.slice none 0 0,.slice none 0 0] 34 (0,0))) rfl (by kernel_rfl) ?_)
      refine hK _ _ ⟨fun _ _=> hS _ hJ.box,?_⟩
      exact ih b2 b4 b5 true v31 v33 v34 v28 v35 v36 _ v11 v26 _ (by simp only [left4,List.countP_cons,List.countP_nil,Bool.not_true,Bool.not_false,if_true,Bool.false_eq_true,if_false] at hl⊢;omega) ⟨hJ.below,hJ.box,hJ.res,hJ.m2,hJ.t2,hJ.m4,hJ.m7,hJ.m8,fun _=> ⟨_,rfl,blk_new w _,hI.below.size,fun e=> by have:=blk_lt hI.res;omega⟩,hJ.c4,hJ.c5⟩
    · obtain⟨⟨⟨⟨rfl,rfl⟩,rfl⟩,rfl⟩,rfl⟩:=hc
      simp [left4] at hl

theorem gset {w W:World} {g j:Nat} {u:Value} (h:w.grownBy W (some g)):w.grownBy (W.setCell ⟨g,j,none⟩ u) (some g):=
  ⟨h.os,h.tape,h.output,by rw [World.size_setCell];exact h.size,fun k hk hne=> by rw [Below.heap_setCell W _ u k (by intro e;exact hne (by rw [e]))];exact h.block k hk hne⟩
set_option maxHeartbeats 8000000 in
theorem store13 (g:Nat) (w:World) (r1 r2 r3:Int) (r4:Bool) (r5 r6:ByteArray) (r7 r8 r9 r10:Int) (r11:List S51) (r12 r13:List S76) (A0 A1 A2:Option Addr) (c0 c1 c2:Nat) (h:w.heap[g]? =some (Obj.cells #[.int .i64 0,.int .i64 0,.int .i64 0,.bool false,.string (⟨#[]⟩:ByteArray),.string (⟨#[]⟩:ByteArray),.int .i64 0,.int .i64 0,.int .i64 0,.int .i64 0,.slice none 0 0,.slice none 0 0,.slice none 0 0] 34 (0,0))):
    ∃w1,(Instr.storeAt 34 (.pointer (some ⟨g,0,none⟩)) (.agg #[.int .i64 r1,.int .i64 r2,.int .i64 r3,.bool r4,.string r5,.string r6,.int .i64 r7,.int .i64 r8,.int .i64 r9,.int .i64 r10,.slice A0 r11.length c0,.slice A1 r12.length c1,.slice A2 r13.length c2])).run Try.prog w= .ok () w1∧w1.heap[g]? =some (Obj.cells #[.int .i64 r1,.int .i64 r2,.int .i64 r3,.bool r4,.string r5,.string r6,.int .i64 r7,.int .i64 r8,.int .i64 r9,.int .i64 r10,.slice A0 r11.length c0,.slice A1 r12.length c1,.slice A2 r13.length c2] 34 (0,0))∧w.grownBy w1 (some g):=by
  have hu34:=Try.underlying34
  obtain⟨h0,h1,h2,h3,h4,h5,h6,h7,h8,h9,h10,h11,h12⟩:=My.qc13 h
  obtain⟨f0,f1,f2,f3,f4,f5,f6,f7,f8,f9,f10,f11,f12⟩:=My.qf13 h
  refine⟨_,by go_simp,My.qp13 h,?_⟩
  iterate 13 refine gset ?_
  exact⟨rfl,rfl,rfl,Nat.le_refl _,fun _ _ _=> rfl⟩
theorem Rt_key (a0:Int) (a1:ByteArray) (a2:Int) (a3 a4:ByteArray) (a5 a6 a7 a8 a9:Int) (pf:ByteArray) (v11 v26:Value) (w0 w3:World) (p1:List S51) (p2 p3:List S76) (d1:List S51) (d2 d3:List S76) (r1 r2 r3:Int) (r4:Bool) (r5 r6:ByteArray) (r7 r8 r9 r10:Int) (r11:List S51) (r12 r13:List S76) (r14:Bool)
    (H:(if a0=7∧a6=1 then some (2,0,0,true,(⟨#[]⟩:ByteArray),(⟨#[]⟩:ByteArray),0,0,0,0,p1,p2,p3,true) else if a0=8∧a6=2 then some (1,0,0,false,pf,(⟨#[]⟩:ByteArray),0,0,0,0,([]:List S51),([]:List S76),([]:List S76),true) else if a0=8∧a6=3 then some (3,0,0,false,pf,(⟨#[]⟩:ByteArray),0,a8,0,0,([]:List S51),([]:List S76),([]:List S76),true) else if a0=8∧a6=10 then some (2,0,0,true,(⟨#[]⟩:ByteArray),(⟨#[]⟩:ByteArray),0,0,0,0,d1,d2,d3,true) else some (0,0,0,false,(⟨#[]⟩:ByteArray),(⟨#[]⟩:ByteArray),0,0,0,0,([]:List S51),([]:List S76),([]:List S76),false))=some (r1,r2,r3,r4,r5,r6,r7,r8,r9,r10,r11,r12,r13,r14))
    (ht:Tx w0.heap.size p1 p2 p3 v11 w3∧Tx w0.heap.size d1 d2 d3 v26 w3):
    ∃A0 c0 A1 c1 A2 c2,(Rt v11 v26 pf a8 a0 a6).getD zq= .agg #[.int .i64 r1,.int .i64 r2,.int .i64 r3,.bool r4,.string r5,.string r6,.int .i64 r7,.int .i64 r8,.int .i64 r9,.int .i64 r10,.slice A0 r11.length c0,.slice A1 r12.length c1,.slice A2 r13.length c2]∧(Rt v11 v26 pf a8 a0 a6).isSome=r14∧Kd.R k51 51 w3 w0.heap.size (fun _=> True) (.slice A0 r11.length c0) r11∧Kd.R k76 76 w3 w0.heap.size (fun k_=> some k_≠(Value.slice A2 r13.length c2).ownBlock) (.slice A1 r12.length c1) r12∧Kd.R k76 76 w3 w0.heap.size (fun k_=> some k_≠(Value.slice A1 r12.length c1).ownBlock) (.slice A2 r13.length c2) r13:=by
  by_cases k1:a0=7∧a6=1
  · rw [if_pos k1] at H
    simp only [Option.some.injEq,Prod.mk.injEq] at H
    obtain⟨rfl,rfl,rfl,rfl,rfl,rfl,rfl,rfl,rfl,rfl,rfl,rfl,rfl,rfl⟩:=H
    obtain⟨A0,c0,A1,c1,A2,c2,e,h0,h1,h2⟩:=ht.1.ex
    subst e
    exact⟨A0,c0,A1,c1,A2,c2,by simp [Rt,tbl,rqOf,k1],by simp [Rt,tbl,k1],h0,h1,h2⟩
  rw [if_neg k1] at H
  have k1':¬(7=a0∧1=a6):=fun e=> k1 ⟨e.1.symm,e.2.symm⟩
  by_cases k2:a0=8∧a6=2
  · rw [if_pos k2] at H
    simp only [Option.some.injEq,Prod.mk.injEq] at H
    obtain⟨rfl,rfl,rfl,rfl,rfl,rfl,rfl,rfl,rfl,rfl,rfl,rfl,rfl,rfl⟩:=H
    exact⟨none,0,none,0,none,0,by simp [Rt,tbl,k2],by simp [Rt,tbl,k2],Kd.R_nil _ _ _ _ _,Kd.R_nil _ _ _ _ _,Kd.R_nil _ _ _ _ _⟩
  rw [if_neg k2] at H
  have k2':¬(8=a0∧2=a6):=fun e=> k2 ⟨e.1.symm,e.2.symm⟩
  by_cases k3:a0=8∧a6=3
  · rw [if_pos k3] at H
    simp only [Option.some.injEq,Prod.mk.injEq] at H
    obtain⟨rfl,rfl,rfl,rfl,rfl,rfl,rfl,rfl,rfl,rfl,rfl,rfl,rfl,rfl⟩:=H
    exact⟨none,0,none,0,none,0,by simp [Rt,tbl,k3],by simp [Rt,tbl,k3],Kd.R_nil _ _ _ _ _,Kd.R_nil _ _ _ _ _,Kd.R_nil _ _ _ _ _⟩
  rw [if_neg k3] at H
  have k3':¬(8=a0∧3=a6):=fun e=> k3 ⟨e.1.symm,e.2.symm⟩
  by_cases k4:a0=8∧a6=10
  · rw [if_pos k4] at H
    simp only [Option.some.injEq,Prod.mk.injEq] at H
    obtain⟨rfl,rfl,rfl,rfl,rfl,rfl,rfl,rfl,rfl,rfl,rfl,rfl,rfl,rfl⟩:=H
    obtain⟨A0,c0,A1,c1,A2,c2,e,h0,h1,h2⟩:=ht.2.ex
    subst e
    exact⟨A0,c0,A1,c1,A2,c2,by simp [Rt,tbl,rqOf,k4],by simp [Rt,tbl,k4],h0,h1,h2⟩
  rw [if_neg k4] at H
  have k4':¬(8=a0∧10=a6):=fun e=> k4 ⟨e.1.symm,e.2.symm⟩
  simp only [Option.some.injEq,Prod.mk.injEq] at H
  obtain⟨rfl,rfl,rfl,rfl,rfl,rfl,rfl,rfl,rfl,rfl,rfl,rfl,rfl,rfl⟩:=H
  exact⟨none,0,none,0,none,0,by simp [Rt,tbl,k1',k2',k3',k4'],by simp [Rt,tbl,k1',k2',k3',k4'],Kd.R_nil _ _ _ _ _,Kd.R_nil _ _ _ _ _,Kd.R_nil _ _ _ _ _⟩
def queue_Ask.f (a0_0:Int) (a0_1:ByteArray) (a0_2:Int) (a0_3:ByteArray) (a0_4:ByteArray) (a0_5:Int) (a0_6:Int) (a0_7:Int) (a0_8:Int) (a0_9:Int):Option (Int×Int×Int×Bool×ByteArray×ByteArray×Int×Int×Int×Int×(List (S51))×(List (S76))×(List (S76))×Bool):=(key_Prefix.f a0_0 a0_1).bind fun t=> (if t.2=true then (if a0_0=7∧a0_4.toList=([]:List UInt8) then some (0,0,0,false,(⟨#[]⟩:ByteArray),(⟨#[]⟩:ByteArray),0,0,0,0,([]:List S51),([]:List S76),([]:List S76),false) else (txn_Put.f a0_4 a0_3 0).bind fun p=> (txn_Drop.f a0_4 a0_7).bind fun d=> if a0_0=7∧a0_6=1 then some (2,0,0,true,(⟨#[]⟩:ByteArray),(⟨#[]⟩:ByteArray),0,0,0,0,p.1,p.2.1,p.2.2,true) else if a0_0=8∧a0_6=2 then some (1,0,0,false,t.1,(⟨#[]⟩:ByteArray),0,0,0,0,([]:List S51),([]:List S76),([]:List S76),true) else if a0_0=8∧a0_6=3 then some (3,0,0,false,t.1,(⟨#[]⟩:ByteArray),0,a0_8,0,0,([]:List S51),([]:List S76),([]:List S76),true) else if a0_0=8∧a0_6=10 then some (2,0,0,true,(⟨#[]⟩:ByteArray),(⟨#[]⟩:ByteArray),0,0,0,0,d.1,d.2.1,d.2.2,true) else some (0,0,0,false,(⟨#[]⟩:ByteArray),(⟨#[]⟩:ByteArray),0,0,0,0,([]:List S51),([]:List S76),([]:List S76),false)) else some (0,0,0,false,(⟨#[]⟩:ByteArray),(⟨#[]⟩:ByteArray),0,0,0,0,([]:List S51),([]:List S76),([]:List S76),false))
set_option maxHeartbeats 80000000 in
set_option maxRecDepth 100000 in
theorem queue_Ask.calls (a0_0:Int) (a0_1:ByteArray) (a0_2:Int) (a0_3:ByteArray) (a0_4:ByteArray) (a0_5:Int) (a0_6:Int) (a0_7:Int) (a0_8:Int) (a0_9:Int) (r1:Int) (r2:Int) (r3:Int) (r4:Bool) (r5:ByteArray) (r6:ByteArray) (r7:Int) (r8:Int) (r9:Int) (r10:Int) (r11:List (S51)) (r12:List (S76)) (r13:List (S76)) (r14:Bool) (w:World) (h:queue_Ask.f a0_0 a0_1 a0_2 a0_3 a0_4 a0_5 a0_6 a0_7 a0_8 a0_9=some (r1,r2,r3,r4,r5,r6,r7,r8,r9,r10,r11,r12,r13,r14)):
    Calls Try.prog 9 #[.agg #[.int .i64 a0_0,.string a0_1,.int .i64 a0_2,.string a0_3,.string a0_4,.int .i64 a0_5,.int .i64 a0_6,.int .i64 a0_7,.int .i64 a0_8,.int .i64 a0_9]] w fun e w'=> ∃v10_ v11_ v12_:Value,e= .returned (.tuple #[.agg #[.int .i64 r1,.int .i64 r2,.int .i64 r3,.bool r4,.string r5,.string r6,.int .i64 r7,.int .i64 r8,.int .i64 r9,.int .i64 r10,v10_,v11_,v12_],.bool r14])∧Kd.R k51 51 w' w.heap.size (fun _=> True) v10_ r11∧Kd.R k76 76 w' w.heap.size (fun k_=> some k_≠(v12_:Value).ownBlock) v11_ r12∧Kd.R k76 76 w' w.heap.size (fun k_=> some k_≠(v11_:Value).ownBlock) v12_ r13∧Below w.heap.size w w':=by
  have hu24:=Try.underlying24
  have hu34:=Try.underlying34
  have HB:=My.m (Below.refl w.heap.size w)
  have H:=h
  simp only [queue_Ask.f] at H
  clear h
  replace H:=Option.bind_eq_some_iff.mp H
  obtain⟨⟨t1,t2⟩,A20,H⟩:=H
  have A2:=My.m A20
  clear A20
  have ZE:(a0_4.toList == ([]:List UInt8))=decide (a0_4.toList=([]:List UInt8)):=by rw [Bool.eq_iff_iff];simp
  by_cases c3:t2=true
  · subst c3
    rw [if_pos rfl] at H
    by_cases c4:a0_0=7∧a0_4.toList=([]:List UInt8)
    · rw [if_pos c4] at H
      have c5:(a0_0 == 7)=true:=beq_iff_eq.2 c4.1
      have c6:(a0_4.toList == ([]:List UInt8))=true:=beq_iff_eq.2 c4.2
      clear c4 ZE
      simp only [Option.some.injEq,Prod.mk.injEq] at H
      obtain⟨rfl,rfl,rfl,rfl,rfl,rfl,rfl,rfl,rfl,rfl,rfl,rfl,rfl,rfl⟩:=H
      go_enter Try.func9,Try.ntmps9
      go_wp2_with (first|((with_reducible refine gate_dst (N:=1) rfl ?_);refine My.be 1 24 #[.int .i64 a0_0,.string a0_1,.int .i64 a0_2,.string a0_3,.string a0_4,.int .i64 a0_5,.int .i64 a0_6,.int .i64 a0_7,.int .i64 a0_8,.int .i64 a0_9] ?_;intro gm hg w1 hbox hb;have BM:=My.m hbox;have GM:=My.m (My.nw w hg My.bB);replace HB:=My.m (below_step My.bB hb);clear hb hbox hg)|((with_reducible refine gate_dst (N:=2) rfl ?_);refine My.be 2 34 #[.int .i64 0,.int .i64 0,.int .i64 0,.bool false,.string (⟨#[]⟩:ByteArray),.string (⟨#[]⟩:ByteArray),.int .i64 0,.int .i64 0,.int .i64 0,.int .i64 0,.slice none 0 0,.slice none 0 0,.slice none 0 0] ?_;intro gr hg w2 hbox hb;have GR:=My.m (My.nw w hg (My.bG GM.out));have N1:=My.m (My.nl hg BM);have N2:=My.m (My.nr hg BM);replace BM:=My.m (My.kb BM.out hb);replace HB:=My.m (below_step (My.bG GM.out) hb);have BR:=My.m hbox;clear hb hbox hg;have hn1:=N1.out;have hn2:=N2.out;obtain⟨_,_,_,_,_,_,_,_,_,_⟩:=My.qc10 BM.out;obtain⟨_,_,_,_,_,_,_,_,_,_⟩:=My.qf10 BM.out)|((with_reducible refine gate_callee (f:=20) rfl ?_);refine goesL_ (some 12) rfl rfl Try.func20 (by kernel_rfl) rfl #[.int .i64 a0_0,.string a0_1] rfl My.ar ?_;(with_reducible refine(key_Prefix.calls a0_0 a0_1 _ _ _ A2.out).mono ?_);rintro e w3 ⟨rfl,hb⟩;refine⟨_,rfl,?_⟩;replace BM:=My.m (My.kb BM.out hb);replace BR:=My.m (My.kb BR.out hb);replace HB:=My.m (below_step (My.bH GM.out GR.out) hb);obtain⟨_,_,_,_,_,_,_,_,_,_⟩:=My.qc10 BM.out;obtain⟨_,_,_,_,_,_,_,_,_,_⟩:=My.qf10 BM.out;obtain⟨_,_,_,_,_,_,_,_,_,_,_,_,_⟩:=My.qc13 BR.out;obtain⟨_,_,_,_,_,_,_,_,_,_,_,_,_⟩:=My.qf13 BR.out))
      refine bodyPost_ret (results_ct rfl _ _ gr 34 #[.int .i64 0,.int .i64 0,.int .i64 0,.bool false,.string (⟨#[]⟩:ByteArray),.string (⟨#[]⟩:ByteArray),.int .i64 0,.int .i64 0,.int .i64 0,.int .i64 0,.slice none 0 0,.slice none 0 0,.slice none 0 0] (0,0) _ rfl (My.qp13 BR.out) Try.underlying34 rfl (by kernel_rfl)) rfl ?_;exact⟨_,_,_,My.q1,Kd.R_nil _ _ _ _ _,Kd.R_nil _ _ _ _ _,Kd.R_nil _ _ _ _ _,(My.bH GM.out GR.out)⟩
    · rw [if_neg c4] at H
      replace H:=Option.bind_eq_some_iff.mp H
      obtain⟨⟨p1,p2,p3⟩,hp,H⟩:=H
      replace H:=Option.bind_eq_some_iff.mp H
      obtain⟨⟨d1,d2,d3⟩,hd,H⟩:=H
      have HH:=My.m H
      have HP:=My.m hp
      have HD:=My.m hd
      clear H hp hd
      have ck:((a0_0 == 7)=false)∨((a0_0 == 7)=true∧(a0_4.toList == ([]:List UInt8))=false):=by
        by_cases h7:a0_0=7
        · exact .inr ⟨beq_iff_eq.2 h7,beq_eq_false_iff_ne.2 (fun e=> c4 ⟨h7,e⟩)⟩
        · exact .inl (beq_eq_false_iff_ne.2 h7)
      clear c4 ZE
      rcases ck with c5|⟨c5,c6⟩
      all_goals
        go_enter Try.func9,Try.ntmps9
        go_wp2_with (first|((with_reducible refine gate_dst (N:=1) rfl ?_);refine My.be 1 24 #[.int .i64 a0_0,.string a0_1,.int .i64 a0_2,.string a0_3,.string a0_4,.int .i64 a0_5,.int .i64 a0_6,.int .i64 a0_7,.int .i64 a0_8,.int .i64 a0_9] ?_;intro gm hg w1 hbox hb;have BM:=My.m hbox;have GM:=My.m (My.nw w hg My.bB);replace HB:=My.m (below_step My.bB hb);clear hb hbox hg)|((with_reducible refine gate_dst (N:=2) rfl ?_);refine My.be 2 34 #[.int .i64 0,.int .i64 0,.int .i64 0,.bool false,.string (⟨#[]⟩:ByteArray),.string (⟨#[]⟩:ByteArray),.int .i64 0,.int .i64 0,.int .i64 0,.int .i64 0,.slice none 0 0,.slice none 0 0,.slice none 0 0] ?_;intro gr hg w2 hbox hb;have GR:=My.m (My.nw w hg (My.bG GM.out));have N1:=My.m (My.nl hg BM);have N2:=My.m (My.nr hg BM);replace BM:=My.m (My.kb BM.out hb);replace HB:=My.m (below_step (My.bG GM.out) hb);have BR:=My.m hbox;clear hb hbox hg;have hn1:=N1.out;have hn2:=N2.out;obtain⟨_,_,_,_,_,_,_,_,_,_⟩:=My.qc10 BM.out;obtain⟨_,_,_,_,_,_,_,_,_,_⟩:=My.qf10 BM.out)|((with_reducible refine gate_callee (f:=20) rfl ?_);refine goesL_ (some 12) rfl rfl Try.func20 (by kernel_rfl) rfl #[.int .i64 a0_0,.string a0_1] rfl My.ar ?_;(with_reducible refine(key_Prefix.calls a0_0 a0_1 _ _ _ A2.out).mono ?_);rintro e w3 ⟨rfl,hb⟩;refine⟨_,rfl,?_⟩;replace BM:=My.m (My.kb BM.out hb);replace BR:=My.m (My.kb BR.out hb);replace HB:=My.m (below_step (My.bH GM.out GR.out) hb);obtain⟨_,_,_,_,_,_,_,_,_,_⟩:=My.qc10 BM.out;obtain⟨_,_,_,_,_,_,_,_,_,_⟩:=My.qf10 BM.out;obtain⟨_,_,_,_,_,_,_,_,_,_,_,_,_⟩:=My.qc13 BR.out;obtain⟨_,_,_,_,_,_,_,_,_,_,_,_,_⟩:=My.qf13 BR.out))
        have BMD:=My.m (blk_drew BM.out)
        have BRD:=My.m (blk_drew BR.out)
        have HBD:=My.m (below_drew1 (show Below w.heap.size w _ from My.bH GM.out GR.out))
        refine start_ (n:=12) (S:=fun w1=> w1.cell? ⟨gm,0,none⟩=some (.int .i64 a0_0)∧w1.cell? ⟨gm,1,none⟩=some (.string a0_1)∧w1.cell? ⟨gm,2,none⟩=some (.int .i64 a0_2)∧w1.cell? ⟨gm,3,none⟩=some (.string a0_3)∧w1.cell? ⟨gm,4,none⟩=some (.string a0_4)∧w1.cell? ⟨gm,5,none⟩=some (.int .i64 a0_5)∧w1.cell? ⟨gm,6,none⟩=some (.int .i64 a0_6)∧w1.cell? ⟨gm,7,none⟩=some (.int .i64 a0_7)∧w1.cell? ⟨gm,8,none⟩=some (.int .i64 a0_8)∧w1.cell? ⟨gm,9,none⟩=some (.int .i64 a0_9)) (ds:= []) (My.bl 12 0) (by kernel_rfl) rfl (by kernel_rfl) (My.qc10 BMD.out) (fun hHeld=> ?_)
        refine with_tabW ask4_tab ask4_bits (fun HT_ HW_=> ?_)
        refine My.tk 0 29 1 HT_ HW_ hHeld ?_;refine My.pu 1 30 3 HT_ ?_;refine My.tk 3 32 11 HT_ HW_ hHeld ?_
        refine ask4_region w gm gr p1 p2 p3 d1 d2 d3 a0_0 a0_1 a0_2 a0_3 a0_4 a0_5 a0_6 a0_7 a0_8 a0_9 t1 _ _ _ _ _ _ _ _ _ _ _ _ _ _ _ _ _ _ _ _ _ _ _ _ _ _ _ HP.out HD.out (fun _ _ N _ _ h=> by cases N <;> exact h) (fun _ h=> My.qc10 h) (fun v31 v33 v34 v28 v35 v36 v6 v11 v26 w3 hJ=> ?_) 7 false false false false undef undef undef undef undef undef undef undef undef _ rfl ⟨HBD.out,BMD.out,BRD.out,fun h=> by simp at h,fun h=> by simp at h,fun h=> by simp at h,fun h=> by simp at h,fun h=> by simp at h,fun h=> by simp at h,fun h=> by simp at h,fun h=> by simp at h⟩
        obtain⟨g6,e6,h6,hg6,hne⟩:=hJ.m9 rfl
        obtain⟨A0,c0,A1,c1,A2,c2,eR,eS,k0,k1,k2⟩:=Rt_key a0_0 a0_1 a0_2 a0_3 a0_4 a0_5 a0_6 a0_7 a0_8 a0_9 t1 v11 v26 w w3 p1 p2 p3 d1 d2 d3 r1 r2 r3 r4 r5 r6 r7 r8 r9 r10 r11 r12 r13 r14 HH.out (hJ.t2 rfl)
        have e35:=hJ.m7 rfl
        have e36:=hJ.m8 rfl
        rw [eR] at e35
        rw [eS] at e36
        subst e35 e36 e6
        obtain⟨w4,hrun,h6',hgr⟩:=store13 g6 w3 r1 r2 r3 r4 r5 r6 r7 r8 r9 r10 r11 r12 r13 A0 A1 A2 c0 c1 c2 h6
        have hm6:gm≠g6:=fun e=> by have:=hJ.box;rw [e,h6] at this;simp at this
        have BM4:=My.m (My.blk_grown' hJ.box hgr hm6)
        have BR4:=My.m (My.blk_grown' hJ.res hgr (Ne.symm hne))
        replace HB:=My.m (My.below_grown' hJ.below hgr hg6)
        have hk0:=My.m (Kd.R_mono (Kd.R_step (Kd.R_types k0 h6 (by decide)) (fun k hk hlt=> hgr.block k hlt (by intro e;injection e with e;exact hk.2 e))) (fun _ hk=> hk.1))
        have hk1:=My.m (Kd.R_mono (Kd.R_step (Kd.R_types k1 h6 (by decide)) (fun k hk hlt=> hgr.block k hlt (by intro e;injection e with e;exact hk.2 e))) (fun _ hk=> hk.1))
        have hk2:=My.m (Kd.R_mono (Kd.R_step (Kd.R_types k2 h6 (by decide)) (fun k hk hlt=> hgr.block k hlt (by intro e;injection e with e;exact hk.2 e))) (fun _ hk=> hk.1))
        clear k0 k1 k2
        refine one_ (i:=10) (N:=none) #[true,true,true,true,true,true,true,true,true,true,true,false] rfl rfl (one_of ask4_tab (by kernel_rfl)) (by decide) (fun K hK=> ?_)
        refine skip_ (w1:=w4) rfl rfl (by show Sem.run _ (Instr.storeAt 34 (.pointer (some ⟨g6,0,none⟩)) (.agg #[.int .i64 r1,.int .i64 r2,.int .i64 r3,.bool r4,.string r5,.string r6,.int .i64 r7,.int .i64 r8,.int .i64 r9,.int .i64 r10,.slice A0 r11.length c0,.slice A1 r12.length c1,.slice A2 r13.length c2]) >>= _) w3=_;rw [Sem.run_bind,hrun];rfl) ?_
        refine hK.out _ _ (My.qc10 BM4.out) (fun _=> ?_)
        refine pure_ (i:=11) (N:=some 5) (v:= .bool r14) #[true,true,true,true,true,true,true,true,true,true,true,true] rfl rfl (any_of ask4_tab (by kernel_rfl)) (fun _ _ _ h=> h) (Or.inl ⟨rfl,fun w'=> rfl⟩) rfl ?_
        refine done_ (done_of ask4_tab (by kernel_rfl)) ?_
        have n6:=Ne.symm hne
        obtain⟨_,_,_,_,_,_,_,_,_,_,_,_,_⟩:=My.qc13 BR4.out
        obtain⟨_,_,_,_,_,_,_,_,_,_,_,_,_⟩:=My.qf13 BR4.out
        obtain⟨_,_,_,_,_,_,_,_,_,_,_,_,_⟩:=My.qc13 h6'
        clear hrun hJ eR eS
        go_wp2
        refine bodyPost_ret (results_ct rfl _ _ gr 34 #[.int .i64 r1,.int .i64 r2,.int .i64 r3,.bool r4,.string r5,.string r6,.int .i64 r7,.int .i64 r8,.int .i64 r9,.int .i64 r10,.slice A0 r11.length c0,.slice A1 r12.length c1,.slice A2 r13.length c2] (0,0) _ rfl (My.qp13 BR4.out) Try.underlying34 rfl (by kernel_rfl)) rfl ?_
        exact⟨_,_,_,My.q1,Kd.R_mono (My.qr13 (Kd.R_types hk0.out BR4.out (by decide)) (fun _ hk=> hk.2)) (fun _ hk=> trivial),Kd.R_mono (My.qr13 (Kd.R_types hk1.out BR4.out (by decide)) (fun _ hk=> hk.2)) (fun _ hk=> hk.1),Kd.R_mono (My.qr13 (Kd.R_types hk2.out BR4.out (by decide)) (fun _ hk=> hk.2)) (fun _ hk=> hk.1),(My.bG GR.out)⟩
  · replace c3:=Bool.eq_false_iff.mpr c3
    subst c3
    rw [if_neg (show¬(false=true) by decide)] at H
    simp only [Option.some.injEq,Prod.mk.injEq] at H
    obtain⟨rfl,rfl,rfl,rfl,rfl,rfl,rfl,rfl,rfl,rfl,rfl,rfl,rfl,rfl⟩:=H
    clear ZE
    go_enter Try.func9,Try.ntmps9
    go_wp2_with (first|((with_reducible refine gate_dst (N:=1) rfl ?_);refine My.be 1 24 #[.int .i64 a0_0,.string a0_1,.int .i64 a0_2,.string a0_3,.string a0_4,.int .i64 a0_5,.int .i64 a0_6,.int .i64 a0_7,.int .i64 a0_8,.int .i64 a0_9] ?_;intro gm hg w1 hbox hb;have BM:=My.m hbox;have GM:=My.m (My.nw w hg My.bB);replace HB:=My.m (below_step My.bB hb);clear hb hbox hg)|((with_reducible refine gate_dst (N:=2) rfl ?_);refine My.be 2 34 #[.int .i64 0,.int .i64 0,.int .i64 0,.bool false,.string (⟨#[]⟩:ByteArray),.string (⟨#[]⟩:ByteArray),.int .i64 0,.int .i64 0,.int .i64 0,.int .i64 0,.slice none 0 0,.slice none 0 0,.slice none 0 0] ?_;intro gr hg w2 hbox hb;have GR:=My.m (My.nw w hg (My.bG GM.out));have N1:=My.m (My.nl hg BM);have N2:=My.m (My.nr hg BM);replace BM:=My.m (My.kb BM.out hb);replace HB:=My.m (below_step (My.bG GM.out) hb);have BR:=My.m hbox;clear hb hbox hg;have hn1:=N1.out;have hn2:=N2.out;obtain⟨_,_,_,_,_,_,_,_,_,_⟩:=My.qc10 BM.out;obtain⟨_,_,_,_,_,_,_,_,_,_⟩:=My.qf10 BM.out)|((with_reducible refine gate_callee (f:=20) rfl ?_);refine goesL_ (some 12) rfl rfl Try.func20 (by kernel_rfl) rfl #[.int .i64 a0_0,.string a0_1] rfl My.ar ?_;(with_reducible refine(key_Prefix.calls a0_0 a0_1 _ _ _ A2.out).mono ?_);rintro e w3 ⟨rfl,hb⟩;refine⟨_,rfl,?_⟩;replace BM:=My.m (My.kb BM.out hb);replace BR:=My.m (My.kb BR.out hb);replace HB:=My.m (below_step (My.bH GM.out GR.out) hb);obtain⟨_,_,_,_,_,_,_,_,_,_⟩:=My.qc10 BM.out;obtain⟨_,_,_,_,_,_,_,_,_,_⟩:=My.qf10 BM.out;obtain⟨_,_,_,_,_,_,_,_,_,_,_,_,_⟩:=My.qc13 BR.out;obtain⟨_,_,_,_,_,_,_,_,_,_,_,_,_⟩:=My.qf13 BR.out))
    refine bodyPost_ret (results_ct rfl _ _ gr 34 #[.int .i64 0,.int .i64 0,.int .i64 0,.bool false,.string (⟨#[]⟩:ByteArray),.string (⟨#[]⟩:ByteArray),.int .i64 0,.int .i64 0,.int .i64 0,.int .i64 0,.slice none 0 0,.slice none 0 0,.slice none 0 0] (0,0) _ rfl (My.qp13 BR.out) Try.underlying34 rfl (by kernel_rfl)) rfl ?_;exact⟨_,_,_,My.q1,Kd.R_nil _ _ _ _ _,Kd.R_nil _ _ _ _ _,Kd.R_nil _ _ _ _ _,(My.bH GM.out GR.out)⟩


end Go.Proofs.Ytlmiojialcdcmaa.PM
