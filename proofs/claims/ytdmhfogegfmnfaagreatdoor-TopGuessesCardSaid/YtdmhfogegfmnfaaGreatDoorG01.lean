/- Slices of the call's own: copied into, written to. No conditions. Short names for lemmas that the texts lean on often. No conditions. What a block that reads as a row tells of the world, all at once. No conditions. Leaves of the core: instructions' kinds, sizes and registers, by their number. No conditions. Leaves of the core: an operation's registers; the written register. .. -/
import Derived.Test.YtdmhfogegfmnfaaGreatDoorChecked
import Derived.Test.YtdmhfogegfmnfaaGreatDoorG00
import Derived.Laws.CopyOwn
import Derived.Laws.CopyRow
import Derived.Laws.IdiomCopy
import Derived.WalkKit
import Derived.Below
import Derived.Maps.RangeWalk
import Derived.Lib.Hide
import Derived.IntWalk
import Derived.Laws.BitsAllLaws
import Derived.Lib.BitFns
import Derived.BigQuiet
import Derived.Deep.QuietTactic
set_option maxHeartbeats 4000000
set_option linter.unusedVariables false
set_option linter.unusedSimpArgs false
namespace Go.Proofs.YtdmhfogegfmnfaaGreatDoor
open Go.RowKit
section
variable {P:Program}
theorem run_copy_wide(w:World)(dT sT ty elem:TypeId)(k g o dLen dCap:Nat)(a:Addr)(sLen sCap:Nat)(cur:Array Value)(t:TypeId)(cs:List Value)
 (hu:P.underlying dT=some (.slice elem)) (hs:(P.info? elem).map (·.size)=some k)
 (hg:w.heap[g]?=some (.cells cur t (0,0))) (hn:cs.length=Nat.min sLen dLen*k)
 (hsrc:∀ j v,cs[j]?=some v→w.cell? (a.add j)=some v) (hfit:o+cs.length≤cur.size) (h1:∀ v∈cs,v.oneCell'=true):
 (Builtin.copy_ #[dT,sT] ty #[.slice (some ⟨g,o,none⟩) dLen dCap,.slice (some a) sLen sCap]).run P w=
  .ok (goInt (Nat.min sLen dLen)) (w.setRow g (cur.toList.take o++cs++cur.toList.drop (o+cs.length)).toArray):=by
 have hl:=run_loadCells_list (P:=P) w a cs hsrc
 have hst:=run_storeCells_at P g o t cs 0 cur w hg (by simpa using hfit) h1
 cases hq:P.info? elem with
 | none=>simp[hq]at hs
 | some i=>
  have hi:i.size=k:=by simpa [hq] using hs
  simp[Builtin.copy_,run_underlying hu,Builtin.lenOf,Builtin.firstCells,sizeOf,typeInfo,hq,hi,← hn,hl,hst]
theorem run_copy_zero(w:World)(dT sT ty elem:TypeId)(d a:Option Addr)(dCap sCap:Nat)(hu:P.underlying dT=some (.slice elem))(hs:((P.info? elem).map (·.size)).isSome=true):
 (Builtin.copy_ #[dT,sT] ty #[.slice d 0 dCap,.slice a 0 sCap]).run P w= .ok (goInt 0) w:=by
 cases hq:P.info? elem with
 | none=>simp[hq]at hs
 | some i=>
  have hl:∀(x:Addr),(loadCells x 0).run P w= .ok #[] w:=fun x=>by simpa using run_loadCells_list (P:=P) w x [] (by simp)
  cases d<;>cases a<;>simp[Builtin.copy_,run_underlying hu,Builtin.lenOf,Builtin.firstCells,sizeOf,typeInfo,hq,storeCells,hl]
end
section
variable {α:Type} {lay:α→Array Value} {k:Nat} {w w':World} {base:Nat} {e:TypeId} {v:Value} {L M:List α}
theorem cells_of{A:Option Addr}{m:Nat}(hk:∀ x,(lay x).size=k)(hk0:0<k)(hM:Sl lay k w A m M):∀ ad,A=some ad→∀ j u,(flat lay M).toList[j]?=some u→w.cell? (ad.add j)=some u:=by
 intro ad e1 j u hj
 subst e1
 have hml:=hM.len
 by_cases h0:0<m
 ·obtain⟨g,off,e2,hg,hc⟩:=hM.2.2 h0
  cases e2
  have hj':=(List.getElem?_eq_some_iff.1 hj).1
  rw[Array.length_toList,flat_size hk,hml]at hj'
  have q:j / k<m:=Nat.div_lt_of_lt_mul (by rw[Nat.mul_comm];exact hj')
  have hq:j / k<M.length:=by omega
  have r:j % k<(lay M[j / k]).size:=by rw[hk];exact Nat.mod_lt _ hk0
  have hadd:(⟨g,off,none⟩:Addr).add j=⟨g,off+j,none⟩:=by unfold Addr.add;split<;>simp_all
  rw[hadd]
  have h3:=hc (j / k) _ (j % k) (lay M[j / k])[j % k] (List.getElem?_eq_getElem hq) (Array.getElem?_eq_getElem r)
  have h4:=flat_get hk M (j / k) _ (j % k) (lay M[j / k])[j % k] (List.getElem?_eq_getElem hq) (Array.getElem?_eq_getElem r)
  have e3:j / k*k+j % k=j:=by rw[Nat.mul_comm];exact Nat.div_add_mod j k
  rw[flat_list]at hj
  rw[e3,hj]at h4
  rw[show off+j / k*k+j % k=off+j by omega]at h3
  rw[h3]
  exact h4.symm
 ·have:M=[]:=List.eq_nil_of_length_eq_zero (by omega)
  subst this
  simp[flat]at hj
variable {ops:Array Oper} {rest:List Oper} {o:Oper} {a:Act} {Q:Exit→Act→World→Prop}
theorem copy_sl{t:Nat}(hT:SlT t e k)(hk:∀ x,(lay x).size=k)(h1:∀ x,Ones (lay x))(hgd:o.guard=none)(d s:Operand)(ho:o.op= .call { callee:=.builtin .copy,args:=#[d,s],argTypes:=#[t,t] })
 (base:Nat) (v:Value) (L:List α) (hd:a.eval d=v) (hown:Ow lay k w base e v L) (A:Option Addr) (m C:Nat) (M:List α) (hs:a.eval s= .slice A m C) (hM:Sl lay k w A m M) (hlen:L.length=m)
 (h:∀ w',Ow lay k w' base e v M→w.grownBy w' v.ownBlock→wpList Tryz.prog ops Q rest (a.put o.dst (goInt m)) w'):wpList Tryz.prog ops Q (o::rest) a w:=by
 obtain⟨i,z,hu,hi,hz,hsz,hzs,hk0,hb⟩:=info_k hT
 have hml:=hM.len
 have hmf:=hM.few
 rcases Nat.eq_zero_or_pos m with h0|h0
 ·subst h0
  have:M=[]:=List.eq_nil_of_length_eq_zero hml
  subst this
  have:L=[]:=List.eq_nil_of_length_eq_zero hlen
  subst this
  obtain⟨A',C',rfl,_⟩:=hown.sl hk
  refine wpList_plain hgd fun K hK=>?_
  have hrun:=run_copy_zero (P:=Tryz.prog) w t t o.type e A' A C' C hu (by rw[hi];rfl)
  unfold Oper.wp
  simp only[List.length_nil]at hd
  simp[execOp,ho,resolve,invoke,builtin,hd,hs,hrun,Result.andThen]
  exact hK _ _ (h w hown (World.grownBy.refl _ _))
 ·obtain⟨⟨hl,hr⟩,hn⟩:=hown
  rcases hr with⟨_,hz'⟩|⟨g,cap,cur,rfl,hbg,hg,hc,hcm,hcs,hct⟩
  ·omega
  ·obtain⟨g',off',e2,hg',hc'⟩:=hM.2.2 h0
   subst e2
   have hmin:Nat.min m L.length=m:=by rw[hlen];exact Nat.min_self m
   have hfs:(flat lay M).toList.length=m*k:=by rw[Array.length_toList,flat_size hk,hml]
   refine wpList_plain hgd fun K hK=>?_
   have hle:m*k≤cap*k:=Nat.mul_le_mul_right k (by omega)
   have hrun:=run_copy_wide (P:=Tryz.prog) w t t o.type e k g 0 L.length cap ⟨g',off',none⟩ m C cur e (flat lay M).toList hu (by rw[hi];simp[hsz]) hg (by rw[hmin,hfs]) (cells_of hk hk0 hM _ rfl) (by omega) (ones_flat h1 M)
   unfold Oper.wp
   simp[execOp,ho,resolve,invoke,builtin,hd,hs,hrun,Result.andThen]
   rw[hmin]
   refine hK _ _ (h _ ⟨⟨by rw[hfs,hml],.inr ⟨g,cap,_,by rw[hml,hlen],hbg,setRow_heap w g cur _ e _ hg,by omega,hcm,?_,?_⟩⟩,by omega⟩ ?_)
   ·rw[Array.length_toList]at hfs
    simp[hfs];omega
   ·rw[hml,List.take_left' hfs]
   ·exact⟨rfl,rfl,rfl,by simp[World.setRow],fun j hj hne=>row_other w g j _ (by simpa [Value.ownBlock,eq_comm] using hne)⟩
end
section
variable {α:Type} {lay:α→Array Value} {k:Nat} {w w':World} {base:Nat} {e:TypeId} {L:List α}
theorem flat_set(hk:∀ x,(lay x).size=k){x x':α}{j:Nat}{u:Value}(hj:j<k)(hx:lay x'=(lay x).setIfInBounds j u):∀(L:List α) (i:Nat),L[i]?=some x→(L.flatMap fun x=>(lay x).toList).set (i*k+j) u=(L.set i x').flatMap fun x=>(lay x).toList
 | [],i,h=>by simp at h
 | y::L,0,h=>by
  simp only[List.getElem?_cons_zero,Option.some.injEq]at h
  subst h
  rw[List.flatMap_cons,List.set_cons_zero,List.flatMap_cons,hx,Nat.zero_mul,Nat.zero_add,List.set_append_left _ _ (by simp[hk,hj]),Array.toList_setIfInBounds]
 | y::L,i+1,h=>by
  simp only[List.getElem?_cons_succ]at h
  rw[List.flatMap_cons,List.set_cons_succ,List.flatMap_cons,← flat_set hk hj hx L i h,List.set_append_right _ _ (by simp[hk,Nat.add_mul];omega)]
  congr 2
  simp[hk,Nat.add_mul];omega
theorem Ow.set{g n c i j:Nat}{x x':α}{u:Value}(h:Ow lay k w base e (.slice (some ⟨g,0,none⟩) n c) L)(hk:∀ x,(lay x).size=k)(hi:L[i]?=some x)(hj:j<k)(hx:lay x'=(lay x).setIfInBounds j u):Ow lay k (w.setCell ⟨g,i*k+j,none⟩ u) base e (.slice (some ⟨g,0,none⟩) n c) (L.set i x'):=by
 obtain⟨⟨hl,hr⟩,hn⟩:=h
 refine⟨⟨by rw[Array.length_toList,flat_size hk],?_⟩,by rw[List.length_set];exact hn⟩
 rcases hr with⟨hv,_⟩|⟨g',cap,cur,hv,hb,hg,hc,hm,hs,ht⟩
 ·cases hv
 ·simp only[Value.slice.injEq,Option.some.injEq,Addr.mk.injEq]at hv
  obtain⟨⟨rfl,_⟩,rfl,rfl⟩:=hv
  refine .inr ⟨g,c,cur.setIfInBounds (i*k+j) u,by simp,hb,?_,by simpa using hc,hm,by simpa using hs,?_⟩
  ·rw[setCell_eq_setRow w g (i*k+j) cur e (0,0) u hg]
   exact setRow_heap w g cur _ e _ hg
  ·rw[flat_list]at ht ⊢
   rw[List.length_set,Array.toList_setIfInBounds,← flat_set hk hj hx L i hi,← ht]
   apply List.ext_getElem?
   intro m
   rw[List.getElem?_take,List.getElem?_set,List.getElem?_set,List.getElem?_take,List.length_take]
   by_cases q:i*k+j=m
   ·subst q
    have hi':=(List.getElem?_eq_some_iff.1 hi).1
    have:(i+1)*k≤L.length*k:=Nat.mul_le_mul_right k (by omega)
    rw[Nat.add_mul,Nat.one_mul]at this
    have h8:L.length*k≤c*k:=Nat.mul_le_mul_right k hc
    have h9:i*k+j<L.length*k:=by omega
    have h10:i*k+j<cur.toList.length:=by rw[Array.length_toList];omega
    simp only[if_true]
    rw[if_pos h9,if_pos h10,if_pos (by omega)]
   ·simp[q]
theorem Ow.same{v:Value}(h:Ow lay k w base e v L)(hs:∀ b,v.ownBlock=some b→w'.heap[b]?=w.heap[b]?):Ow lay k w' base e v L:=by
 obtain⟨⟨hl,hr⟩,hn⟩:=h
 refine⟨⟨hl,?_⟩,hn⟩
 rcases hr with hr|⟨g',cap,cur,rfl,hb,hg,r⟩
 ·exact .inl hr
 ·exact .inr ⟨g',cap,cur,rfl,hb,(hs g' rfl).trans hg,r⟩
theorem more_past{X Y:World}(h:X.heap.size=Y.heap.size)(os:Array Obj)(m m':Nat){j:Nat}(hj:X.heap.size≤j):(more Y os m').heap[j]?=(more X os m).heap[j]?:=by
 show(Y.heap++os)[j]?=(X.heap++os)[j]?
 rw[Array.getElem?_append_right (by omega),Array.getElem?_append_right (by omega),h]
theorem Ow.lies{v:Value}(h:Ow lay k w base e v L)(hL:0<L.length):∃ g c cur,v= .slice (some ⟨g,0,none⟩) L.length c∧base≤g∧w.heap[g]?=some (.cells cur e (0,0))∧L.length≤c∧cur.size=c*k∧c≤maxLen:=by
 rcases h.1.2 with⟨_,h0⟩|⟨g,cap,cur,hv,hb,hg,hc,hm,hs,ht⟩
 ·omega
 ·exact⟨g,cap,cur,hv,hb,hg,hc,hs,hm⟩
end
theorem frozen_row{w:World}{g i:Nat}{cur:Array Value}{t:TypeId}(h:w.heap[g]?=some (.cells cur t (0,0))):w.frozen? ⟨g,i,none⟩=false:=by simp[World.frozen?,h]
structure Cc where
 ways:Int
 sets:Sv
def ccC(c:Cc):Array Value:=#[.int .i64 c.ways,.slice c.sets.a c.sets.n c.sets.c]
theorem row35:IsRow 35 2:=⟨_,Tryz.underlying35,rfl,by kernel_rfl⟩
@[go_sem] theorem ccC_size(e:Cc):(ccC e).size=2:=(rfl)
theorem ccC_ones(e:Cc):Ones (ccC e):=(rfl)
def ccZ:Cc:=⟨0,⟨none,0,0⟩⟩
theorem zero35(w:World):(zeroValue 35).run Tryz.prog w= .ok (.agg (ccC ccZ)) w:=by kernel_rfl
@[go_sem] theorem ccC_0(e:Cc):(ccC e)[0]?=some (.int .i64 e.ways):=(rfl)
@[go_sem] theorem ccC_1(e:Cc):(ccC e)[1]?=some (.slice e.sets.a e.sets.n e.sets.c):=(rfl)
@[go_sem] theorem ccG_0(e:Cc)(h:0<(ccC e).size):(ccC e)[0]'h= .int .i64 e.ways:=(rfl)
@[go_sem] theorem ccG_1(e:Cc)(h:1<(ccC e).size):(ccC e)[1]'h= .slice e.sets.a e.sets.n e.sets.c:=(rfl)
@[go_sem] theorem ccS_0(e:Cc)(x:Int):(ccC e).setIfInBounds 0 (.int .i64 x)=ccC { e with ways:=x }:=(rfl)
@[go_sem] theorem ccS_1(e:Cc)(a:Option Addr)(n c:Nat):(ccC e).setIfInBounds 1 (.slice a n c)=ccC { e with sets:=⟨a,n,c⟩ }:=(rfl)
section
variable {α:Type _} {a b c d e:α} {l:List α}
theorem mm0:a∈a::l:=List.mem_cons_self ..
theorem mm1:b∈a::b::l:=List.mem_cons_of_mem _ mm0
theorem mm2:c∈a::b::c::l:=List.mem_cons_of_mem _ mm1
theorem mm3:d∈a::b::c::d::l:=List.mem_cons_of_mem _ mm2
end
abbrev oo:Bool:=false
abbrev zz5:Array Bool:=#[oo,oo,oo,oo,oo]
abbrev zz6:Array Bool:=#[oo,oo,oo,oo,oo,oo]
abbrev zz8:Array Bool:=#[oo,oo,oo,oo,oo,oo,oo,oo]
abbrev zz9:Array Bool:=#[oo,oo,oo,oo,oo,oo,oo,oo,oo]
abbrev zz10:Array Bool:=#[oo,oo,oo,oo,oo,oo,oo,oo,oo,oo]
abbrev zz11:Array Bool:=#[oo,oo,oo,oo,oo,oo,oo,oo,oo,oo,oo]
abbrev zz12:Array Bool:=#[oo,oo,oo,oo,oo,oo,oo,oo,oo,oo,oo,oo]
abbrev zz13:Array Bool:=#[oo,oo,oo,oo,oo,oo,oo,oo,oo,oo,oo,oo,oo]
abbrev zz14:Array Bool:=#[oo,oo,oo,oo,oo,oo,oo,oo,oo,oo,oo,oo,oo,oo]
abbrev zz15:Array Bool:=#[oo,oo,oo,oo,oo,oo,oo,oo,oo,oo,oo,oo,oo,oo,oo]
abbrev zz16:Array Bool:=#[oo,oo,oo,oo,oo,oo,oo,oo,oo,oo,oo,oo,oo,oo,oo,oo]
abbrev zz17:Array Bool:=#[oo,oo,oo,oo,oo,oo,oo,oo,oo,oo,oo,oo,oo,oo,oo,oo,oo]
abbrev zz18:Array Bool:=#[oo,oo,oo,oo,oo,oo,oo,oo,oo,oo,oo,oo,oo,oo,oo,oo,oo,oo]
abbrev zz19:Array Bool:=#[oo,oo,oo,oo,oo,oo,oo,oo,oo,oo,oo,oo,oo,oo,oo,oo,oo,oo,oo]
abbrev zz20:Array Bool:=#[oo,oo,oo,oo,oo,oo,oo,oo,oo,oo,oo,oo,oo,oo,oo,oo,oo,oo,oo,oo]
abbrev zz21:Array Bool:=#[oo,oo,oo,oo,oo,oo,oo,oo,oo,oo,oo,oo,oo,oo,oo,oo,oo,oo,oo,oo,oo]
abbrev zz22:Array Bool:=#[oo,oo,oo,oo,oo,oo,oo,oo,oo,oo,oo,oo,oo,oo,oo,oo,oo,oo,oo,oo,oo,oo]
abbrev zz24:Array Bool:=#[oo,oo,oo,oo,oo,oo,oo,oo,oo,oo,oo,oo,oo,oo,oo,oo,oo,oo,oo,oo,oo,oo,oo,oo]
abbrev zz25:Array Bool:=#[oo,oo,oo,oo,oo,oo,oo,oo,oo,oo,oo,oo,oo,oo,oo,oo,oo,oo,oo,oo,oo,oo,oo,oo,oo]
abbrev zz28:Array Bool:=#[oo,oo,oo,oo,oo,oo,oo,oo,oo,oo,oo,oo,oo,oo,oo,oo,oo,oo,oo,oo,oo,oo,oo,oo,oo,oo,oo,oo]
abbrev zz32:Array Bool:=#[oo,oo,oo,oo,oo,oo,oo,oo,oo,oo,oo,oo,oo,oo,oo,oo,oo,oo,oo,oo,oo,oo,oo,oo,oo,oo,oo,oo,oo,oo,oo,oo]
abbrev zz43:Array Bool:=#[oo,oo,oo,oo,oo,oo,oo,oo,oo,oo,oo,oo,oo,oo,oo,oo,oo,oo,oo,oo,oo,oo,oo,oo,oo,oo,oo,oo,oo,oo,oo,oo,oo,oo,oo,oo,oo,oo,oo,oo,oo,oo,oo]
theorem xA{α:Type _}(l:List α)(i:Nat)(x:α):l.toArray.setIfInBounds i x=(l.set i x).toArray:=List.setIfInBounds_toArray ..
theorem xB{α:Type _}{x:α}{l:List α}{y:α}:(x::l).set 0 y=y::l:=rfl
theorem xC{α:Type _}{x:α}{l:List α}{i:Nat}{y:α}:(x::l).set (i+1) y=x::l.set i y:=rfl
theorem gD{P:Program}{ops:Array Oper}{Q:Exit→Act→World→Prop}(o:Op){i g s t u}{r:List Oper}{a:Act}{w:World}(h:wpList P ops Q (⟨i,o,g,s,t,u⟩::r) a w):wpList P ops Q (⟨i,o,g,s,t,u⟩::r) a w:=h
theorem gL(T t:Nat){P:Program}{ops:Array Oper}{Q:Exit→Act→World→Prop}{i g s j u}{r:List Oper}{a:Act}{w:World}(h:wpList P ops Q (⟨i,.load T (.tmp t),g,s,j,u⟩::r) a w):wpList P ops Q (⟨i,.load T (.tmp t),g,s,j,u⟩::r) a w:=h
theorem gS(T t:Nat){P:Program}{ops:Array Oper}{Q:Exit→Act→World→Prop}{i g s j u}{x:Operand}{r:List Oper}{a:Act}{w:World}(h:wpList P ops Q (⟨i,.store T (.tmp t) x,g,s,j,u⟩::r) a w):wpList P ops Q (⟨i,.store T (.tmp t) x,g,s,j,u⟩::r) a w:=h
theorem gAl(T:Nat){P:Program}{ops:Array Oper}{Q:Exit→Act→World→Prop}{i g s j u}{r:List Oper}{a:Act}{w:World}(h:wpList P ops Q (⟨i,.alloc T,g,s,j,u⟩::r) a w):wpList P ops Q (⟨i,.alloc T,g,s,j,u⟩::r) a w:=h
theorem gBx(T t:Nat){P:Program}{ops:Array Oper}{Q:Exit→Act→World→Prop}{i g s j u}{r:List Oper}{a:Act}{w:World}(h:wpList P ops Q (⟨i,.box T (.tmp t),g,s,j,u⟩::r) a w):wpList P ops Q (⟨i,.box T (.tmp t),g,s,j,u⟩::r) a w:=h
section
variable (w:World) (o:Obj) (p:Addr) (v:Value)
end
theorem nmF{W:World}{g:Nat}{cs:Array Value}{t:TypeId}(h:W.heap[g]?=some (.cells cs t (0,0))):g<W.heap.size∧(∀ j,W.cell? ⟨g,j,none⟩=cs[j]?)∧(∀ j,W.drew.cell? ⟨g,j,none⟩=cs[j]?)∧(∀ j,W.frozen? ⟨g,j,none⟩=false)∧(∀ j,W.drew.frozen? ⟨g,j,none⟩=false):=
  ⟨(Array.getElem?_eq_some_iff.1 h).1,fun j=>cell_of_row W _ j _ _ _ h,fun j=>cell_of_row W _ j _ _ _ h,fun j=>frozen_row h,fun j=>frozen_row (w:=W.drew) h⟩
theorem xI(w:World)(os:Array Obj)(k:Nat):(more w os k).heap.size=w.heap.size+os.size:=more_size ..
theorem xJ(w:World)(n:Nat)(cs:Array Value):(w.setRow n cs).heap.size=w.heap.size:=row_size ..
theorem xH(w:World)(n:Nat):(w.drewN n).heap=w.heap:=heap_drewN' ..
theorem fR:(∀(w:World) (o:Obj),(w.alloc o).heap.size=w.heap.size+1)∧(∀(w:World) (os:Array Obj) (k:Nat),(more w os k).heap.size=w.heap.size+os.size)∧(∀(w:World) (n:Nat) (cs:Array Value),(w.setRow n cs).heap.size=w.heap.size)∧(∀ w:World,w.drew.heap.size=w.heap.size)∧(∀(w:World) (p:Addr) (v:Value),(w.setCell p v).heap.size=w.heap.size):=
  ⟨fun _ _=>World.size_alloc ..,xI,xJ,fun _=>rfl,fun _ _ _=>World.size_setCell ..⟩
theorem sZ:(∀(w:World) (o:Obj),(w.alloc o).heap.size=w.heap.size+1)∧(∀(w:World) (os:Array Obj) (k:Nat),(more w os k).heap.size=w.heap.size+os.size)∧(∀(w:World) (n:Nat) (cs:Array Value),(w.setRow n cs).heap.size=w.heap.size)∧(∀ w:World,w.drew.heap.size=w.heap.size)∧(∀(w:World) (p:Addr) (v:Value),(w.setCell p v).heap.size=w.heap.size)∧∀(w:World) (n:Nat),(w.drewN n).heap=w.heap:=
  ⟨fR.1,fR.2.1,fR.2.2.1,fR.2.2.2.1,fR.2.2.2.2,xH⟩
theorem ret_i{a b:Int}(h:a=b):Ending.returned (.int .i64 a)= .returned (.int .i64 b):=by rw[h]
@[reducible] def iv(op rd r1 r2 im:Int):Value:=.agg #[.int .i64 op,.int .i64 rd,.int .i64 r1,.int .i64 r2,.int .u32 im]
theorem kind_any(op rd r1 r2 im:Int)(w:World):Calls Tryz.prog 52 #[iv op rd r1 r2 im] w fun e w'=>e= .returned (.int .i64 (kd op))∧Below w.heap.size w w':=by
 unfold iv
 go_enter Tryz.func52,Tryz.ntmps52
 go_wp2
 all_goals
  go_ret
  refine⟨ret_i (by unfold kd;(try simp only[beq_eq_false_iff_ne,ne_eq,beq_iff_eq,Bool.or_eq_true,Bool.or_eq_false_iff]at *);repeat' split<;>omega),(Below.refl w.heap.size w).alloc (Nat.le_refl _) _⟩
theorem size_any(op rd r1 r2 im:Int)(w:World):Calls Tryz.prog 82 #[iv op rd r1 r2 im] w fun e w'=>e= .returned (.int .i64 (sz op))∧Below w.heap.size w w':=by
 unfold iv
 go_enter Tryz.func82,Tryz.ntmps82
 go_wp2
 all_goals
  go_ret
  refine⟨ret_i (by unfold sz;(try simp only[beq_eq_false_iff_ne,ne_eq,beq_iff_eq,Bool.or_eq_true,Bool.or_eq_false_iff]at *);repeat' split<;>omega),(Below.refl w.heap.size w).alloc (Nat.le_refl _) _⟩
theorem reads_any(op rd r1 r2 im:Int)(w:World):Calls Tryz.prog 53 #[iv op rd r1 r2 im] w fun e w'=>e= .returned (.tuple #[.int .i64 r1,.int .i64 r2])∧Below w.heap.size w w':=by
 unfold iv
 go_enter Tryz.func53,Tryz.ntmps53
 go_wp2
 go_region
 all_goals(try go_wp2)
 all_goals go_ret2
 exact⟨rfl,((Below.refl w.heap.size w).alloc (Nat.le_refl _) _).drew⟩
theorem form_any(op:Int)(w:World):Calls Tryz.prog 107 #[.int .i64 op] w fun e w'=>e= .returned (.int .i64 (fm op))∧w=w':=by
 go_enter Tryz.func107,Tryz.ntmps107
 go_wp2
 all_goals
  go_ret
  refine⟨ret_i (by unfold fm;(try simp only[beq_eq_false_iff_ne,ne_eq,beq_iff_eq,Bool.or_eq_true,Bool.or_eq_false_iff]at *);repeat' split<;>omega),rfl⟩
theorem ret_3{a b c a' b' c':Bool}(h:a=a')(k:b=b')(l:c=c'):Ending.returned (.tuple #[.bool a,.bool b,.bool c])= .returned (.tuple #[.bool a',.bool b',.bool c']):=by rw[h,k,l]
theorem has_any(f:Int)(w:World):Calls Tryz.prog 106 #[.int .i64 f] w fun e w'=>e= .returned (.tuple #[.bool (hd f),.bool (h1 f),.bool (h2 f)])∧w=w':=by
 go_enter Tryz.func106,Tryz.ntmps106
 go_wp2
 all_goals
  go_ret3
  (try simp only[beq_eq_false_iff_ne,ne_eq,beq_iff_eq,Bool.or_eq_true,Bool.or_eq_false_iff]at *)
  refine⟨ret_3 (by unfold hd;symm;first|(apply decide_eq_true;omega)|(apply decide_eq_false;omega)) (by unfold h1;symm;first|(apply decide_eq_true;omega)|(apply decide_eq_false;omega)) (by unfold h2;symm;first|(apply decide_eq_true;omega)|(apply decide_eq_false;omega)),by first|trivial⟩
theorem writes_any(op rd r1 r2 im:Int)(w:World):Calls Tryz.prog 78 #[iv op rd r1 r2 im] w fun e w'=>e= .returned (.int .i64 (wr op rd))∧Below w.heap.size w w':=by
 unfold iv wr
 have F:=Lib.hid form_any
 have H:=Lib.hid has_any
 cases c:hd (fm op)
 all_goals
  have C:=Lib.hid c
  go_enter Tryz.func78,Tryz.ntmps78
  go_wp2_with fail
  refine(F.out op _).mono ?_
  rintro e w' ⟨rfl,rfl⟩
  go_wp2_with fail
  refine(H.out (fm op) _).mono ?_
  rw[C.out]
  rintro e w' ⟨rfl,rfl⟩
  go_wp2
  go_ret
  exact⟨rfl,(Below.refl w.heap.size w).alloc (Nat.le_refl _) _⟩
theorem ret_u{a b:Int}(h:a=b):Ending.returned (.int .u32 a)= .returned (.int .u32 b):=by rw[h]
def ln(a:Int):Int:=a-a % 16
theorem line_any(a:Int)(h0:0≤a)(h1:a≤4294967295)(w:World):Calls Tryz.prog 28 #[.int .u32 a] w fun e w'=>e= .returned (.int .u32 (ln a))∧w=w':=by
 have m:a.tmod 16=a % 16:=Int.tmod_eq_emod_of_nonneg h0
 have b1:=Int.emod_nonneg a (show(16:Int)≠0 by decide)
 have b2:=Int.emod_lt_of_pos a (show(0:Int)<16 by decide)
 go_enter Tryz.func28,Tryz.ntmps28
 go_wp2
 go_ret
 refine⟨ret_u ?_,rfl⟩
 unfold ln
 omega
def ad(op x y:Int):Int:=
 if op=28∨op=19 then(x+y) % 4294967296
 else if op=29 then(x-y) % 4294967296
 else if op=37∨op=24 then bits .and .u32 x y
 else if op=36∨op=23 then bits .or .u32 x y
 else if op=33∨op=22 then bits .xor .u32 x y
 else if op=30∨op=25 then x*2 ^ (y % 32).toNat % 4294967296
 else if op=34∨op=26 then x / 2 ^ (y % 32).toNat
 else if op=35∨op=27 then wrap32 x / 2 ^ (y % 32).toNat % 4294967296
 else if op=31∨op=20 then(if wrap32 x<wrap32 y then 1 else 0)
 else if op=32∨op=21 then(if x<y then 1 else 0)
 else if op=1 then y else 0
theorem ad1(x y:Int):ad 1 x y=y:=rfl
theorem ad19(x y:Int):ad 19 x y=(x+y) % 4294967296:=rfl
theorem ad20(x y:Int):ad 20 x y=(if wrap32 x<wrap32 y then 1 else 0):=rfl
theorem ad21(x y:Int):ad 21 x y=(if x<y then 1 else 0):=rfl
theorem ad22(x y:Int):ad 22 x y=bits .xor .u32 x y:=rfl
theorem ad23(x y:Int):ad 23 x y=bits .or .u32 x y:=rfl
theorem ad24(x y:Int):ad 24 x y=bits .and .u32 x y:=rfl
theorem ad25(x y:Int):ad 25 x y=x*2 ^ (y % 32).toNat % 4294967296:=rfl
theorem ad26(x y:Int):ad 26 x y=x / 2 ^ (y % 32).toNat:=rfl
theorem ad27(x y:Int):ad 27 x y=wrap32 x / 2 ^ (y % 32).toNat % 4294967296:=rfl
theorem ad28(x y:Int):ad 28 x y=(x+y) % 4294967296:=rfl
theorem ad29(x y:Int):ad 29 x y=(x-y) % 4294967296:=rfl
theorem ad30(x y:Int):ad 30 x y=x*2 ^ (y % 32).toNat % 4294967296:=rfl
theorem ad31(x y:Int):ad 31 x y=(if wrap32 x<wrap32 y then 1 else 0):=rfl
theorem ad32(x y:Int):ad 32 x y=(if x<y then 1 else 0):=rfl
theorem ad33(x y:Int):ad 33 x y=bits .xor .u32 x y:=rfl
theorem ad34(x y:Int):ad 34 x y=x / 2 ^ (y % 32).toNat:=rfl
theorem ad35(x y:Int):ad 35 x y=wrap32 x / 2 ^ (y % 32).toNat % 4294967296:=rfl
theorem ad36(x y:Int):ad 36 x y=bits .or .u32 x y:=rfl
theorem ad37(x y:Int):ad 37 x y=bits .and .u32 x y:=rfl
theorem ad_else(op x y:Int)(h:op≠1∧op≠19∧op≠20∧op≠21∧op≠22∧op≠23∧op≠24∧op≠25∧op≠26∧op≠27∧op≠28∧op≠29∧op≠30∧op≠31∧op≠32∧op≠33∧op≠34∧op≠35∧op≠36∧op≠37):ad op x y=0:=by
 unfold ad
 repeat(rw[if_neg (by omega)])
theorem low_nat(n y:Nat):y &&& (2 ^ n-1)=y % 2 ^ n:=Nat.and_two_pow_sub_one_eq_mod y n
theorem and31(y:Int)(h0:0≤y)(h1:y≤4294967295):bits .and .u32 y 31=y % 32:=by
 rw[u32_and y 31 h0 (by omega) (by omega) (by omega),show(31:Int).toNat=2 ^ 5-1 from rfl,low_nat];omega
theorem wrap32_bd(x:Int):-2147483648≤wrap32 x∧wrap32 x≤2147483647:=by unfold wrap32;omega
theorem and_bd(x y:Int)(h0:0≤x)(h1:x≤4294967295)(g0:0≤y)(g1:y≤4294967295):0≤bits .and .u32 x y∧bits .and .u32 x y≤4294967295:=by
 rw[u32_and x y h0 (by omega) g0 (by omega)]
 have:x.toNat &&& y.toNat<2 ^ 32:=Nat.and_lt_two_pow _ (by omega)
 omega
theorem or_bd(x y:Int)(h0:0≤x)(h1:x≤4294967295)(g0:0≤y)(g1:y≤4294967295):0≤bits .or .u32 x y∧bits .or .u32 x y≤4294967295:=by
 rw[u32_or x y h0 (by omega) g0 (by omega)]
 have:x.toNat ||| y.toNat<2 ^ 32:=Nat.or_lt_two_pow (by omega) (by omega)
 omega
theorem xor_bd(x y:Int)(h0:0≤x)(h1:x≤4294967295)(g0:0≤y)(g1:y≤4294967295):0≤bits .xor .u32 x y∧bits .xor .u32 x y≤4294967295:=by
 rw[u32_xor x y h0 (by omega) g0 (by omega)]
 have:x.toNat ^^^ y.toNat<2 ^ 32:=Nat.xor_lt_two_pow (by omega) (by omega)
 omega
theorem shr_bd(x:Int)(n:Nat)(h0:0≤x)(h1:x≤4294967295):0≤x / 2 ^ n∧x / 2 ^ n≤4294967295:=by
 have hp:(0:Int)<2 ^ n:=Int.pow_pos (by decide)
 have a:=Int.ediv_nonneg h0 (b:=2 ^ n) (by omega)
 have b:=Int.ediv_le_self (a:=x) (2 ^ n) h0
 omega
def Wd(r:Int):Prop:=0≤r∧r≤4294967295
theorem wd_ite{c:Prop}[Decidable c]{a b:Int}(ha:Wd a)(hb:Wd b):Wd (if c then a else b):=by split<;>assumption
theorem wd_mod(a:Int):Wd (a % 4294967296):=by unfold Wd;omega
theorem ad_wd(op x y:Int)(h0:0≤x)(h1:x≤4294967295)(g0:0≤y)(g1:y≤4294967295):Wd (ad op x y):=by
 have z:Wd 0:=⟨by decide,by decide⟩
 have o:Wd 1:=⟨by decide,by decide⟩
 unfold ad
 refine wd_ite (wd_mod _) (wd_ite (wd_mod _) (wd_ite (and_bd x y h0 h1 g0 g1) (wd_ite (or_bd x y h0 h1 g0 g1) (wd_ite (xor_bd x y h0 h1 g0 g1) (wd_ite (wd_mod _) (wd_ite (shr_bd x _ h0 h1) (wd_ite (wd_mod _) (wd_ite (wd_ite o z) (wd_ite (wd_ite o z) (wd_ite ⟨g0,g1⟩ z))))))))))
theorem ad_bd(op x y:Int)(h0:0≤x)(h1:x≤4294967295)(g0:0≤y)(g1:y≤4294967295):0≤ad op x y∧ad op x y≤4294967295:=ad_wd op x y h0 h1 g0 g1
def mu(op x y:Int):Int:=
 if op=38 then x*y % 4294967296
 else if op=39 then wrap32 x*wrap32 y / 4294967296 % 4294967296
 else if op=40 then wrap32 x*y / 4294967296 % 4294967296
 else if op=41 then x*y / 4294967296 % 4294967296
 else 0
def br(op x y:Int):Bool:=
 if op=5 then x== y
 else if op=6 then x != y
 else if op=7 then decide (wrap32 x<wrap32 y)
 else if op=8 then decide (wrap32 y≤wrap32 x)
 else if op=9 then decide (x<y)
 else if op=10 then decide (y≤x)
 else false
def nx(op im pc x y:Int):Int:=
 if op=3∨br op x y=true then(pc+im) % 4294967296
 else if op=4 then(x+im) % 4294967296 / 2*2
 else(pc+4) % 4294967296
theorem mu39(x y:Int):mu 39 x y=wrap32 x*wrap32 y / 4294967296 % 4294967296:=rfl
theorem mu40(x y:Int):mu 40 x y=wrap32 x*y / 4294967296 % 4294967296:=rfl
theorem mu41(x y:Int):mu 41 x y=x*y / 4294967296 % 4294967296:=rfl
theorem mu_else(op x y:Int)(h:op<38∨41<op):mu op x y=0:=by
 unfold mu;rw[if_neg (by omega),if_neg (by omega),if_neg (by omega),if_neg (by omega)]
theorem mu_wd(op x y:Int):Wd (mu op x y):=by
 unfold mu
 exact wd_ite (wd_mod _) (wd_ite (wd_mod _) (wd_ite (wd_mod _) (wd_ite (wd_mod _) ⟨by decide,by decide⟩)))
theorem mu_bd(op x y:Int):0≤mu op x y∧mu op x y≤4294967295:=mu_wd op x y
theorem br_else(op x y:Int)(h:op<5∨10<op):br op x y=false:=by
 unfold br;rw[if_neg (by omega),if_neg (by omega),if_neg (by omega),if_neg (by omega),if_neg (by omega),if_neg (by omega)]
theorem nx_wd(op im pc x y:Int):0≤nx op im pc x y∧nx op im pc x y≤4294967295:=by
 have:Wd (nx op im pc x y):=by
  unfold nx
  exact wd_ite (wd_mod _) (wd_ite ⟨by omega,by omega⟩ (wd_mod _))
 exact this
theorem even_of(v:Int)(h0:0≤v)(h1:v≤4294967295):bits .andNot .u32 v 1=v / 2*2:=by
 rw[u32_andNot v 1 h0 (by omega) (by omega) (by omega),show 4294967295-(1:Int).toNat=4294967294 from rfl,nat_hi32_1];omega
def sg(x:Int):Int:=if x<2147483648 then x else x-4294967296
def dv(op x y:Int):Int:=
 if op=42 then(if y=0 then 4294967295 else(sg x).tdiv (sg y) % 4294967296)
 else if op=43 then(if y=0 then 4294967295 else x / y)
 else if op=44 then(if y=0 then x else(sg x).tmod (sg y) % 4294967296)
 else if op=45 then(if y=0 then x else x % y)
 else 0
theorem wrap32_neg{x:Int}(h:2147483648≤x)(h1:x≤4294967295):wrap32 x<0:=by unfold wrap32;omega
theorem wrap32_pos{x:Int}(h:x<2147483648)(h1:0≤x):0≤wrap32 x:=by unfold wrap32;omega
theorem xor_hi(a b:Nat)(ha:a<4294967296)(hb:b<4294967296):(a ^^^ b<2147483648)↔(a<2147483648↔b<2147483648):=by
 have h1:∀ n:Nat,n<4294967296→(n<2147483648↔n.testBit 31=false):=by
  intro n hn
  rw[Nat.testBit_eq_decide_div_mod_eq]
  simp only[decide_eq_false_iff_not]
  omega
 have hx:a ^^^ b<4294967296:=Nat.xor_lt_two_pow (n:=32) (by omega) (by omega)
 rw[h1 _ hx,h1 _ ha,h1 _ hb,Nat.testBit_xor]
 cases a.testBit 31<;>cases b.testBit 31<;>simp
theorem dxor_bd(a b:Int)(h1:0≤a)(h2:a<4294967296)(h3:0≤b)(h4:b<4294967296):0≤bits .xor .u32 a b∧bits .xor .u32 a b≤4294967295:=by
 rw[u32_xor a b h1 h2 h3 h4]
 have:a.toNat ^^^ b.toNat<4294967296:=Nat.xor_lt_two_pow (n:=32) (by omega) (by omega)
 omega
theorem xor_same(a b:Int)(h1:0≤a)(h2:a<4294967296)(h3:0≤b)(h4:b<4294967296)(h:a<2147483648↔b<2147483648):0≤wrap32 (bits .xor .u32 a b):=by
 have hb:=dxor_bd a b h1 h2 h3 h4
 have hx:=(xor_hi a.toNat b.toNat (by omega) (by omega)).2 (by omega)
 refine wrap32_pos ?_ hb.1
 rw[u32_xor a b h1 h2 h3 h4];omega
theorem xor_other(a b:Int)(h1:0≤a)(h2:a<4294967296)(h3:0≤b)(h4:b<4294967296)(h:a<2147483648↔¬ b<2147483648):wrap32 (bits .xor .u32 a b)<0:=by
 have hb:=dxor_bd a b h1 h2 h3 h4
 have hx:¬ a.toNat ^^^ b.toNat<2147483648:=fun hh=>by have:=(xor_hi a.toNat b.toNat (by omega) (by omega)).1 hh;omega
 refine wrap32_neg ?_ hb.2
 rw[u32_xor a b h1 h2 h3 h4];omega
theorem dv_bd(op x y:Int)(h0:0≤x)(h1:x≤4294967295)(g0:0≤y)(g1:y≤4294967295):0≤dv op x y∧dv op x y≤4294967295:=by
 unfold dv
 have hq:0≤x / y:=Int.ediv_nonneg h0 g0
 have hq2:x / y≤x:=Int.ediv_le_self _ h0
 repeat' split
 all_goals first
  | omega
  |(have:=Int.emod_nonneg x (b:=y) (by omega);have:=Int.emod_lt_of_pos x (b:=y) (by omega);omega)
theorem sg_p{x:Int}(h:x<2147483648):sg x=x:=by unfold sg;rw[if_pos h]
theorem sg_n{x:Int}(h:2147483648≤x):sg x= -(4294967296-x):=by unfold sg;rw[if_neg (by omega)];omega
theorem neg_u{x:Int}(h:1≤x)(h1:x≤4294967295):-x % 4294967296=4294967296-x:=by omega
theorem dv42(x y:Int)(g0:1≤y):dv 42 x y=(sg x).tdiv (sg y) % 4294967296:=by
 unfold dv;rw[if_pos rfl,if_neg (by omega)]
theorem dv44(x y:Int)(g0:1≤y):dv 44 x y=(sg x).tmod (sg y) % 4294967296:=by
 unfold dv;rw[if_neg (by decide),if_neg (by decide),if_pos rfl,if_neg (by omega)]
theorem dv43(x y:Int)(g0:1≤y):dv 43 x y=x / y:=by
 unfold dv;rw[if_neg (by decide),if_pos rfl,if_neg (by omega)]
theorem dv45(x y:Int)(g0:1≤y):dv 45 x y=x % y:=by
 unfold dv;rw[if_neg (by decide),if_neg (by decide),if_neg (by decide),if_pos rfl,if_neg (by omega)]
theorem dv42_pp(x y:Int)(h0:0≤x)(cx:x<2147483648)(g0:1≤y)(cy:y<2147483648):x / y=dv 42 x y:=by
 rw[dv42 x y g0,sg_p cx,sg_p cy,Int.tdiv_eq_ediv_of_nonneg h0]
 have:=Int.ediv_nonneg h0 (b:=y) (by omega);have:=Int.ediv_le_self (a:=x) y h0
 omega
theorem dv42_pn(x y:Int)(h0:0≤x)(cx:x<2147483648)(cy:2147483648≤y)(g1:y≤4294967295):-(x / (-y % 4294967296)) % 4294967296=dv 42 x y:=by
 rw[dv42 x y (by omega),sg_p cx,sg_n cy,neg_u (by omega) g1,Int.tdiv_neg,Int.tdiv_eq_ediv_of_nonneg h0]
theorem dv42_np(x y:Int)(cx:2147483648≤x)(h1:x≤4294967295)(g0:1≤y)(cy:y<2147483648):-(-x % 4294967296 / y) % 4294967296=dv 42 x y:=by
 rw[dv42 x y g0,sg_n cx,sg_p cy,neg_u (by omega) h1,Int.neg_tdiv,Int.tdiv_eq_ediv_of_nonneg (by omega)]
theorem dv42_nn(x y:Int)(cx:2147483648≤x)(h1:x≤4294967295)(cy:2147483648≤y)(g1:y≤4294967295):-x % 4294967296 / (-y % 4294967296)=dv 42 x y:=by
 rw[dv42 x y (by omega),sg_n cx,sg_n cy,neg_u (by omega) h1,neg_u (by omega) g1,Int.neg_tdiv,Int.tdiv_neg,Int.neg_neg,Int.tdiv_eq_ediv_of_nonneg (by omega)]
 have h0:(0:Int)≤4294967296-x:=by omega
 have:=Int.ediv_nonneg h0 (b:=4294967296-y) (by omega);have:=Int.ediv_le_self (a:=4294967296-x) (4294967296-y) h0
 omega
theorem dv44_pp(x y:Int)(h0:0≤x)(cx:x<2147483648)(g0:1≤y)(cy:y<2147483648):x % y=dv 44 x y:=by
 rw[dv44 x y g0,sg_p cx,sg_p cy,Int.tmod_eq_emod_of_nonneg h0]
 have:=Int.emod_nonneg x (b:=y) (by omega);have:=Int.emod_lt_of_pos x (b:=y) (by omega)
 omega
theorem dv44_pn(x y:Int)(h0:0≤x)(cx:x<2147483648)(cy:2147483648≤y)(g1:y≤4294967295):x % (-y % 4294967296)=dv 44 x y:=by
 rw[dv44 x y (by omega),sg_p cx,sg_n cy,neg_u (by omega) g1,Int.tmod_neg,Int.tmod_eq_emod_of_nonneg h0]
 have:=Int.emod_nonneg x (b:=4294967296-y) (by omega);have:=Int.emod_lt_of_pos x (b:=4294967296-y) (by omega)
 omega
theorem dv44_np(x y:Int)(cx:2147483648≤x)(h1:x≤4294967295)(g0:1≤y)(cy:y<2147483648):-(-x % 4294967296 % y) % 4294967296=dv 44 x y:=by
 rw[dv44 x y g0,sg_n cx,sg_p cy,neg_u (by omega) h1,Int.neg_tmod,Int.tmod_eq_emod_of_nonneg (by omega)]
def szz(x:Int):Int:=if x<2147483648 then x else 4294967296-x
theorem szz_p{x:Int}(h:x<2147483648):szz x=x:=by unfold szz;rw[if_pos h]
theorem szz_n{x:Int}(h:2147483648≤x):szz x=4294967296-x:=by unfold szz;rw[if_neg (by omega)]
theorem dv44_nn(x y:Int)(cx:2147483648≤x)(h1:x≤4294967295)(cy:2147483648≤y)(g1:y≤4294967295):-(-x % 4294967296 % (-y % 4294967296)) % 4294967296=dv 44 x y:=by
 rw[dv44 x y (by omega),sg_n cx,sg_n cy,neg_u (by omega) h1,neg_u (by omega) g1,Int.tmod_neg,Int.neg_tmod,Int.tmod_eq_emod_of_nonneg (by omega)]
def bl(x:Int):Int:=(Lib.bitLen x.toNat:Int)
def szo(op x:Int):Int:=if op=42∨op=44 then szz x else x
def tk(op x y:Int):Int:=
 if op<42∨45<op then 0 else if y=0∨szo op x<szo op y then 2 else 3+bl (szo op x)-bl (szo op y)
theorem two_pow_mono{m n:Nat}(h:m≤n):(2:Int) ^ m≤2 ^ n:=by
 have:=Nat.pow_le_pow_right (n:=2) (by decide) h
 exact_mod_cast this
theorem bl_zero:bl 0=0:=by decide
theorem bl_half{x:Int}(h0:1≤x)(h1:x≤4294967295):bl x=1+bl (x / 2):=by
 unfold bl
 rw[Lib.bitLen_half x.toNat (by omega) (by omega),show(x / 2).toNat=x.toNat / 2 by omega];omega
theorem bl_nonneg(x:Int):0≤bl x:=by unfold bl;omega
theorem bl_le:∀(n:Nat) (x:Int),0≤x→x<2 ^ n→n≤32→bl x≤n
 | 0,x,h0,h,_=>by
  have:x=0:=by simp at h;omega
  subst this;decide
 | n+1,x,h0,h,hn=>by
  by_cases hx:x=0
  ·subst hx;have:=bl_zero;omega
  ·have hp:(2:Int) ^ (n+1)≤2 ^ 32:=two_pow_mono hn
   have h3:(2:Int) ^ 32=4294967296:=by decide
   rw[bl_half (by omega) (by omega)]
   have:=bl_le n (x / 2) (by omega) (by rw[Int.pow_succ]at h;omega) (by omega)
   omega
theorem bl_32{x:Int}(h0:0≤x)(h1:x≤4294967295):0≤bl x∧bl x≤32:=
 ⟨bl_nonneg x,bl_le 32 x h0 (by simp only[show(2:Int) ^ 32=4294967296 by decide];omega) (Nat.le_refl _)⟩
theorem szz_bd{x:Int}(h0:0≤x)(h1:x≤4294967295):0≤szz x∧szz x≤4294967295:=by unfold szz;split<;>omega
theorem szo_bd(op:Int){x:Int}(h0:0≤x)(h1:x≤4294967295):0≤szo op x∧szo op x≤4294967295:=by
 have:=szz_bd h0 h1;unfold szo;split<;>omega
theorem szo42(x:Int):szo 42 x=szz x:=by simp[szo]
theorem szo43(x:Int):szo 43 x=x:=by simp[szo]
theorem szo44(x:Int):szo 44 x=szz x:=by simp[szo]
theorem szo45(x:Int):szo 45 x=x:=by simp[szo]
theorem tk_out{op:Int}(x y:Int)(h:op<42∨45<op):tk op x y=0:=by unfold tk;rw[if_pos h]
theorem tk_two{op:Int}(x y:Int)(h:42≤op∧op≤45)(c:y=0∨szo op x<szo op y):tk op x y=2:=by
 unfold tk;rw[if_neg (by omega),if_pos c]
theorem tk_more{op:Int}(x y:Int)(h:42≤op∧op≤45)(c:y≠0)(c':szo op y≤szo op x):tk op x y=3+bl (szo op x)-bl (szo op y):=by
 unfold tk;rw[if_neg (by omega),if_neg (by omega)]
theorem nand_bd(x y:Int):0≤bits .andNot .u32 x y∧bits .andNot .u32 x y≤4294967295:=by
 unfold bits
 simp only[IntKind.wrap_u32]
 omega
def andU(a b:U):U:=⟨bits .and .u32 a.v b.v,(and_bd a.v b.v a.lo a.hi b.lo b.hi).1,(and_bd a.v b.v a.lo a.hi b.lo b.hi).2⟩
def orU(a b:U):U:=⟨bits .or .u32 a.v b.v,(or_bd a.v b.v a.lo a.hi b.lo b.hi).1,(or_bd a.v b.v a.lo a.hi b.lo b.hi).2⟩
def nandU(a b:U):U:=⟨bits .andNot .u32 a.v b.v,(nand_bd a.v b.v).1,(nand_bd a.v b.v).2⟩
def notU(a:U):U:=⟨bits .xor .u32 IntKind.u32.max a.v,(xor_bd IntKind.u32.max a.v (by decide) (by decide) a.lo a.hi).1,(xor_bd IntKind.u32.max a.v (by decide) (by decide) a.lo a.hi).2⟩
def shlU(a:U)(n:Int):U:=U.of (a.v*2 ^ n.toNat)
def shrU(a:U)(n:Int):U:=⟨a.v / 2 ^ n.toNat,(shr_bd a.v n.toNat a.lo a.hi).1,(shr_bd a.v n.toNat a.lo a.hi).2⟩
def addU(a:U)(n:Int):U:=U.of (a.v+n)
def mayB(p s:Int):Bool:=decide (0≤p∧p≤31∧1≤s∧s≤32-p)
def onesU(s:Int):U:=U.of (2 ^ min s.toNat 32 % 4294967296-1)
def fieldU(w:U)(p s:Int):U:=if mayB p s then andU (shrU w p) (onesU s)else U.of 0
def setU(w:U)(p s:Int)(v:U):U:=if mayB p s then orU (nandU w (shlU (onesU s) p)) (andU (shlU v p) (shlU (onesU s) p))else w
def sextU(w:U)(s:Int):U:=
 if s<1∨32<s then w
 else if(andU (shrU w (s-1)) (U.of 1)).v=1 then orU (andU w (onesU s)) (notU (onesU s))else andU w (onesU s)
def parts(f:Int):List Sp:=
 if f=2 then [⟨20,12⟩]else if f=3 then [⟨20,5⟩]else if f=4 then [⟨7,5⟩,⟨25,7⟩]else if f=5 then [⟨8,4⟩,⟨25,6⟩,⟨7,1⟩,⟨31,1⟩]
 else if f=6 then [⟨12,20⟩]else if f=7 then [⟨21,10⟩,⟨20,1⟩,⟨12,8⟩,⟨31,1⟩]else []
def lowB(f:Int):Int:=if f=5∨f=7 then 1 else if f=6 then 12 else 0
def gath(w:U):List Sp→U→Int→U×Int
 | [],v,s=>(v,s)
 | p::ps,v,s=>gath w ps (setU v s p.s (fieldU w p.p p.s)) (s+p.s)
def scat:List Sp→U→U→U
 | [],v,w=>w
 | p::ps,v,w=>scat ps (shrU v p.s) (setU w p.p p.s v)
def readI(op:Int)(w:U):In:=
 let f:=fm op
 let g:=gath w (parts f) (U.of 0) 0
 let im:=shlU g.1 (lowB f)
 { op:=op,rd:=if hd f then(fieldU w 7 5).v else 0,r1:=if h1 f then(fieldU w 15 5).v else 0,r2:=if h2 f then(fieldU w 20 5).v else 0,imm:=if f=3 then im else sextU im (g.2+lowB f) }
def fixU(f:Int):U:=
 if f=8 then U.of 0xFFFFFFFF else if f=1∨f=3 then U.of 0xFE00707F else if f=2∨f=4∨f=5 then U.of 0x707F else if f=6∨f=7 then U.of 0x7F else U.of 0
def codes:List Int:=[0,55,23,111,103,99,4195,16483,20579,24675,28771,3,4099,8195,16387,20483,35,4131,8227,19,8211,12307,16403,24595,28691,4115,20499,1073762323,51,1073741875,4147,8243,12339,16435,20531,1073762355,24627,28723,33554483,33558579,33562675,33566771,33570867,33574963,33579059,33583155,15,115,1048691]
def codeU(op:Int):U:=U.of (codes.getD op.toNat 0)
def decFrom(w:U):Nat→Int→In×Int
 | 0,_=>(⟨0,0,0,0,U.of 0⟩,20)
 | n+1,op=>if andU w (fixU (fm op))=codeU op then(readI op w,0)else decFrom w n (op+1)
def dec(w:U):In×Int:=decFrom w 48 1
def encO(b:Bool)(w:U)(p r:Int):U:=if b then setU w p 5 (U.of r)else w
def enc(i:In):U×Int:=
 let f:=fm i.op
 if f=0 then(U.of 0,1)
 else
  let w:=encO (h2 f) (encO (h1 f) (encO (hd f) (orU (codeU i.op) (scat (parts f) (shrU i.imm (lowB f)) (U.of 0))) 7 i.rd) 15 i.r1) 20 i.r2
  if readI i.op w=i then(w,0)else(U.of 0,1)
def adU(op:Int)(a b:U):U:=⟨ad op a.v b.v,(ad_bd op a.v b.v a.lo a.hi b.lo b.hi).1,(ad_bd op a.v b.v a.lo a.hi b.lo b.hi).2⟩
def muU(op:Int)(a b:U):U:=⟨mu op a.v b.v,(mu_bd op a.v b.v).1,(mu_bd op a.v b.v).2⟩
def dvU(op:Int)(a b:U):U:=U.of (dv op a.v b.v)
def immB(op:Int):Bool:=decide (op=1∨11≤op∧op≤15∨19≤op∧op≤27)
def valU(i:In)(pc a b:U):U:=
 if kd i.op=1 then muU i.op a b else if kd i.op=2 then dvU i.op a b
 else if i.op=2 then addU pc i.imm.v else if i.op=3∨i.op=4 then addU pc 4
 else adU i.op a (if immB i.op then i.imm else b)
def nxU(i:In)(pc a b:U):U:=⟨nx i.op i.imm.v pc.v a.v b.v,(nx_wd i.op i.imm.v pc.v a.v b.v).1,(nx_wd i.op i.imm.v pc.v a.v b.v).2⟩
def tgtB(i:In)(pc a b:U):Bool:=(nxU i pc a b).v % 4== 0
theorem ret_b{a b:Bool}(h:a=b):Ending.returned (.bool a)= .returned (.bool b):=by rw[h]
theorem mayB_any(p s:Int)(w:World):Calls Tryz.prog 145 #[.int .i64 p,.int .i64 s] w fun e w'=>e= .returned (.bool (mayB p s))∧w=w':=by
 have H0:∀ b,(decide (0≤p∧p≤31∧1≤s∧s≤32-p))=b→mayB p s=b:=fun b h=>h
 have H:=Lib.hid H0
 clear H0
 by_cases c1:0≤p
 ·by_cases c2:p≤31
  ·by_cases c3:1≤s
   ·go_enter Tryz.func145,Tryz.ntmps145
    go_wp2
    all_goals
     go_ret
     exact⟨ret_b (H.out _ (by(rw[Bool.eq_iff_iff];simp only[decide_eq_true_eq];omega))).symm,rfl⟩
   ·have d3:decide (1≤s)=false:=by simpa using c3
    go_enter Tryz.func145,Tryz.ntmps145
    go_wp2
    all_goals
     go_ret
     exact⟨ret_b (H.out _ (by(apply decide_eq_false;omega))).symm,rfl⟩
  ·have d2:decide (p≤31)=false:=by simpa using c2
   go_enter Tryz.func145,Tryz.ntmps145
   go_wp2
   all_goals
    go_ret
    exact⟨ret_b (H.out _ (by(apply decide_eq_false;omega))).symm,rfl⟩
 ·have d1:decide (0≤p)=false:=by simpa using c1
  go_enter Tryz.func145,Tryz.ntmps145
  go_wp2
  all_goals
   go_ret
   exact⟨ret_b (H.out _ (by(apply decide_eq_false;omega))).symm,rfl⟩
theorem ones_any(s:Int)(h0:0≤s)(w:World):Calls Tryz.prog 129 #[.int .i64 s] w fun e w'=>e= .returned (.int .u32 (onesU s).v)∧w=w':=by
 go_enter Tryz.func129,Tryz.ntmps129
 go_wp2
 go_ret
 exact⟨rfl,rfl⟩
theorem field_any(x:U)(p s:Int)(w:World):Calls Tryz.prog 143 #[.int .u32 x.v,.int .i64 p,.int .i64 s] w fun e w'=>e= .returned (.int .u32 (fieldU x p s).v)∧∃ n,w'=w.drewN n:=by
 have x0:=x.lo
 have x1:=x.hi
 have M:=Lib.hid (fun w=>mayB_any p s w)
 cases c:mayB p s with
 | false=>
  have F0:fieldU x p s=U.of 0:=by unfold fieldU;rw[c];rfl
  have F:=Lib.hid F0
  clear F0
  have C:=Lib.hid c
  clear c
  go_enter Tryz.func143,Tryz.ntmps143
  go_wp2_with fail
  refine(M.out _).mono ?_
  rw[C.out]
  rintro e w' ⟨rfl,rfl⟩
  go_wp2
  go_ret
  exact⟨by rw[F.out];rfl,0,rfl⟩
 | true=>
  have F0:fieldU x p s=andU (shrU x p) (onesU s):=by unfold fieldU;rw[c];rfl
  have F:=Lib.hid F0
  clear F0
  have C:=Lib.hid c
  have c':0≤p∧p≤31∧1≤s∧s≤32-p:=of_decide_eq_true c
  obtain⟨c1,c2,c3,c4⟩:=c'
  have c5:0≤s:=by omega
  clear c
  go_enter Tryz.func143,Tryz.ntmps143
  go_wp2_with fail
  refine(M.out _).mono ?_
  rw[C.out]
  rintro e w' ⟨rfl,rfl⟩
  go_wp2_with fail
  go_quiet ((go_at_call 129;exact Calls.quiet_of_same ((ones_any _ c5 _).mono fun _ _ h=>⟨h.1,h.2.symm⟩)))
  go_wp2
  go_ret
  exact⟨by rw[F.out];rfl,_,rfl⟩
theorem set_any(x:U)(p s:Int)(y:U)(w:World):Calls Tryz.prog 128 #[.int .u32 x.v,.int .i64 p,.int .i64 s,.int .u32 y.v] w fun e w'=>e= .returned (.int .u32 (setU x p s y).v)∧w=w':=by
 have x0:=x.lo
 have x1:=x.hi
 have y0:=y.lo
 have y1:=y.hi
 have M:=Lib.hid (fun w=>mayB_any p s w)
 cases c:mayB p s with
 | false=>
  have F0:setU x p s y=x:=by unfold setU;rw[c];rfl
  have F:=Lib.hid F0
  have C:=Lib.hid c
  clear c F0
  go_enter Tryz.func128,Tryz.ntmps128
  go_wp2_with fail
  refine(M.out _).mono ?_
  rw[C.out]
  rintro e w' ⟨rfl,rfl⟩
  go_wp2
  go_ret
  exact⟨by rw[F.out];rfl,rfl⟩
 | true=>
  have F0:setU x p s y=orU (nandU x (shlU (onesU s) p)) (andU (shlU y p) (shlU (onesU s) p)):=by unfold setU;rw[c];rfl
  have F:=Lib.hid F0
  have C:=Lib.hid c
  have c':0≤p∧p≤31∧1≤s∧s≤32-p:=of_decide_eq_true c
  obtain⟨c1,c2,c3,c4⟩:=c'
  have c5:0≤s:=by omega
  have o0:=(onesU s).lo
  have o1:=(onesU s).hi
  clear c F0
  go_enter Tryz.func128,Tryz.ntmps128
  go_wp2_with fail
  refine(M.out _).mono ?_
  rw[C.out]
  rintro e w' ⟨rfl,rfl⟩
  go_wp2_with fail
  refine(ones_any _ c5 _).mono ?_
  rintro e w' ⟨rfl,rfl⟩
  go_wp2
  go_ret
  exact⟨by rw[F.out];rfl,rfl⟩
theorem sext_any(x:U)(s:Int)(w:World):Calls Tryz.prog 109 #[.int .u32 x.v,.int .i64 s] w fun e w'=>e= .returned (.int .u32 (sextU x s).v)∧w=w':=by
 have x0:=x.lo
 have x1:=x.hi
 by_cases c:s<1∨32<s
 ·have F0:sextU x s=x:=by unfold sextU;rw[if_pos c]
  have F:=Lib.hid F0
  clear F0
  rcases c with c|c
  all_goals
   go_enter Tryz.func109,Tryz.ntmps109
   go_wp2
   go_ret
   exact⟨by rw[F.out];rfl,rfl⟩
 ·have c1:1≤s:=by omega
  have c2:s≤32:=by omega
  have c5:0≤s:=by omega
  have o0:=(onesU s).lo
  have o1:=(onesU s).hi
  have e1:(s-1).toNat=s.toNat-1:=by omega
  have F0:sextU x s=(if(andU (shrU x (s-1)) (U.of 1)).v=1 then orU (andU x (onesU s)) (notU (onesU s))else andU x (onesU s)):=by unfold sextU;rw[if_neg c]
  have F:=Lib.hid F0
  have E1:=Lib.hid e1
  clear F0 c e1
  go_enter Tryz.func109,Tryz.ntmps109
  go_wp2_with (go_at_call 129;refine(ones_any _ c5 _).mono ?_;rintro e w' ⟨rfl,rfl⟩)
  ·have ht:(bits .and .u32 (x.v / 2 ^ (s.toNat-1)) 1== 1)=true:=by assumption
   go_ret
   refine⟨?_,rfl⟩
   rw[F.out,if_pos (by show bits .and .u32 (x.v / 2 ^ (s-1).toNat) (1 % 4294967296)=1;rw[E1.out];simpa using ht)]
   rfl
  ·have ht:(bits .and .u32 (x.v / 2 ^ (s.toNat-1)) 1== 1)=false:=by assumption
   go_ret
   refine⟨?_,rfl⟩
   rw[F.out,if_neg (by show ¬ bits .and .u32 (x.v / 2 ^ (s-1).toNat) (1 % 4294967296)=1;rw[E1.out];simpa using ht)]
   rfl
end Go.Proofs.YtdmhfogegfmnfaaGreatDoor
