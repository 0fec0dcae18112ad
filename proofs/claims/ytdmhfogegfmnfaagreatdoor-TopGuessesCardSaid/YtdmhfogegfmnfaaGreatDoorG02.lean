/- Contracts: the parts of an instruction's number. No conditions. The plain data of a core: bytes, memory, the bus, caches, views. No conditions. Contracts: bytes of words, addresses, loads. Conditions: sizes are below a million. Returns of structs among other results. No conditions. Rows of bytes. No conditions. -/
import Derived.Test.YtdmhfogegfmnfaaGreatDoorG00
import Derived.Test.YtdmhfogegfmnfaaGreatDoorG01
import Derived.Laws.BytesString
import Derived.Laws.IdiomStrings
import Derived.Laws.IdiomCopy
import Derived.Lib.LazyBuf
set_option maxRecDepth 100000
set_option maxHeartbeats 2000000
set_option linter.unusedVariables false
set_option linter.unusedSimpArgs false
namespace Go.Proofs.YtdmhfogegfmnfaaGreatDoor
open Go.RowKit
theorem fixed_any(f:Int)(w:World):Calls Tryz.prog 124 #[.int .i64 f] w fun e w'=>e= .returned (.int .u32 (fixU f).v)∧w=w':=by
 have H0:∀ v:U,fixU f=v→(fixU f).v=v.v:=fun v h=>by rw[h]
 have H:=Lib.hid H0
 clear H0
 go_enter Tryz.func124,Tryz.ntmps124
 go_wp2
 all_goals
  go_ret
  refine⟨ret_u ?_,rfl⟩
  (try simp only[beq_eq_false_iff_ne,ne_eq,beq_iff_eq,Bool.or_eq_true,Bool.or_eq_false_iff]at *)
  unfold fixU
  first|(rw[if_pos (by omega)];rfl)|(rw[if_neg (by omega),if_pos (by omega)];rfl)|(rw[if_neg (by omega),if_neg (by omega),if_pos (by omega)];rfl)|(rw[if_neg (by omega),if_neg (by omega),if_neg (by omega),if_pos (by omega)];rfl)|(rw[if_neg (by omega),if_neg (by omega),if_neg (by omega),if_neg (by omega)];rfl)
def NumP(f:Int)(w:World)(e:Ending)(w':World):Prop:=∃ A C,e= .returned (.tuple #[.slice A (parts f).length C,.int .i64 (lowB f)])∧Sl spC 2 w' A (parts f).length (parts f)∧Below w.heap.size w w'
theorem spK(x:Sp):(spC x).size=2:=spC_size x
theorem number_any(f:Int)(w:World):Calls Tryz.prog 126 #[.int .i64 f] w (NumP f w):=by
 by_cases c2:f=2
 ·subst c2
  go_enter Tryz.func126,Tryz.ntmps126
  go_wp2
  go_ret2
  exact⟨_,_,rfl,Sl.new (L:=[Sp.mk 20 12]) (t:=214) (fr:=(0,0)) spK (heap_alloc_new w _) (by decide),by(repeat(first|exact Below.refl _ _|(refine Below.alloc ?_ ?_ _;rotate_left;(omega))))⟩
 by_cases c3:f=3
 ·subst c3
  go_enter Tryz.func126,Tryz.ntmps126
  go_wp2
  go_ret2
  exact⟨_,_,rfl,Sl.new (L:=[Sp.mk 20 5]) (t:=214) (fr:=(0,0)) spK (heap_alloc_new w _) (by decide),by(repeat(first|exact Below.refl _ _|(refine Below.alloc ?_ ?_ _;rotate_left;(omega))))⟩
 by_cases c4:f=4
 ·subst c4
  go_enter Tryz.func126,Tryz.ntmps126
  go_wp2
  go_ret2
  exact⟨_,_,rfl,Sl.new (L:=[Sp.mk 7 5,Sp.mk 25 7]) (t:=214) (fr:=(0,0)) spK (heap_alloc_new w _) (by decide),by(repeat(first|exact Below.refl _ _|(refine Below.alloc ?_ ?_ _;rotate_left;(omega))))⟩
 by_cases c5:f=5
 ·subst c5
  go_enter Tryz.func126,Tryz.ntmps126
  go_wp2
  go_ret2
  exact⟨_,_,rfl,Sl.new (L:=[Sp.mk 8 4,Sp.mk 25 6,Sp.mk 7 1,Sp.mk 31 1]) (t:=214) (fr:=(0,0)) spK (heap_alloc_new w _) (by decide),by(repeat(first|exact Below.refl _ _|(refine Below.alloc ?_ ?_ _;rotate_left;(omega))))⟩
 by_cases c6:f=6
 ·subst c6
  go_enter Tryz.func126,Tryz.ntmps126
  go_wp2
  go_ret2
  exact⟨_,_,rfl,Sl.new (L:=[Sp.mk 12 20]) (t:=214) (fr:=(0,0)) spK (heap_alloc_new w _) (by decide),by(repeat(first|exact Below.refl _ _|(refine Below.alloc ?_ ?_ _;rotate_left;(omega))))⟩
 by_cases c7:f=7
 ·subst c7
  go_enter Tryz.func126,Tryz.ntmps126
  go_wp2
  go_ret2
  exact⟨_,_,rfl,Sl.new (L:=[Sp.mk 21 10,Sp.mk 20 1,Sp.mk 12 8,Sp.mk 31 1]) (t:=214) (fr:=(0,0)) spK (heap_alloc_new w _) (by decide),by(repeat(first|exact Below.refl _ _|(refine Below.alloc ?_ ?_ _;rotate_left;(omega))))⟩
 have e0:parts f=[]:=by unfold parts;rw[if_neg c2,if_neg c3,if_neg c4,if_neg c5,if_neg c6,if_neg c7]
 have e1:lowB f=0:=by unfold lowB;rw[if_neg (by omega),if_neg c6]
 have E0:=Lib.hid e0
 have E1:=Lib.hid e1
 have d2:(f== 2)=false:=by rw[beq_eq_false_iff_ne];exact c2
 have d3:(f== 3)=false:=by rw[beq_eq_false_iff_ne];exact c3
 have d4:(f== 4)=false:=by rw[beq_eq_false_iff_ne];exact c4
 have d5:(f== 5)=false:=by rw[beq_eq_false_iff_ne];exact c5
 have d6:(f== 6)=false:=by rw[beq_eq_false_iff_ne];exact c6
 have d7:(f== 7)=false:=by rw[beq_eq_false_iff_ne];exact c7
 clear e0 e1 c2 c3 c4 c5 c6 c7
 go_enter Tryz.func126,Tryz.ntmps126
 go_wp2
 go_ret2
 refine⟨none,0,?_,?_,Below.refl _ _⟩
 ·rw[E0.out,E1.out];rfl
 ·rw[E0.out];exact Sl.none_ _
def GatP(x:U)(L:List Sp)(w:World)(e:Ending)(w':World):Prop:=e= .returned (.tuple #[.int .u32 (gath x L (U.of 0) 0).1.v,.int .i64 (gath x L (U.of 0) 0).2])∧Below w.heap.size w w'
theorem gath_nil(x:U)(L:List Sp)(n:Nat)(h:L.length=n)(v:U)(s:Int)(r:U×Int)(e:gath x (L.drop n) v s=r):v=r.1∧s=r.2:=by
 rw[List.drop_of_length_le (by omega)]at e
 subst e
 exact⟨rfl,rfl⟩
theorem gath_cons(x:U)(L:List Sp)(k:Nat)(y:Sp)(h:L[k]?=some y)(v:U)(s:Int)(r:U×Int)(e:gath x (L.drop k) v s=r):gath x (L.drop (k+1)) (setU v s y.s (fieldU x y.p y.s)) (s+y.s)=r:=by
 have hk:k<L.length:=(List.getElem?_eq_some_iff.1 h).1
 have hy:L[k]=y:=(List.getElem?_eq_some_iff.1 h).2
 rw[List.drop_eq_getElem_cons hk,hy]at e
 exact e
theorem gather_any(x:U)(A:Option Addr)(n C:Nat)(L:List Sp)(w:World)(hL:Sl spC 2 w A n L)(hs:∀ y∈L,0≤y.s∧y.s≤32):Calls Tryz.prog 144 #[.int .u32 x.v,.slice A n C] w (GatP x L w):=by
 have hn:=hL.few
 have HL:=Lib.hid hL
 have HS:=Lib.hid hs
 have x0:=x.lo
 have x1:=x.hi
 clear hL hs
 go_enter Tryz.func144,Tryz.ntmps144
 go_wp2
 go_loopw [6,7,12] (fun v s i wr=>∃(k:Nat) (a:U) (b:Int),k≤n∧0≤b∧b≤32*k∧v= .int .u32 a.v∧s= .int .i64 b∧i= .int .i64 k∧Hid (gath x (L.drop k) a b=gath x L (U.of 0) 0)∧Below w.heap.size w wr) (fun _ _ i _=>n-(intOf i).toNat)
 case atStart=>exact⟨0,U.of 0,0,by omega,by omega,by omega,rfl,rfl,rfl,rfl,Below.refl _ _⟩
 case round=>
  obtain⟨k,a,b,hk,hb0,hb1,rfl,rfl,rfl,HG,HB⟩:=hrel
  have hBs:=HB.size
  have a0:=a.lo
  have a1:=a.hi
  by_cases hlt:k<n
  ·obtain⟨g,off,y,rfl,hg,hy,hc⟩:=(HL.out.below HB).at_ hlt
   have HY:=Lib.hid hy
   have HC:=Lib.hid hc
   have hz:=HS.out y (List.mem_of_getElem? hy)
   obtain⟨z0,z1⟩:=hz
   clear hy hc
   go_wp2_with (first|((with_reducible refine gAl 214 ?_);refine alloc_row (spC spZ) zero214 rfl rfl ?_;try simp only[Act.put,xA,xB,xC,fR])|((with_reducible refine gD (Op.store 214 _ _) ?_);apply store_row row214 rfl _ _ rfl _ (spC _) rfl rfl (spC_size _) (spC_ones _) (t:=214) (old:=spC _) (h2:=spC_size _);(·(repeat((refine heap_at _ _ _ ?_;(with_reducible rfl)))));try simp only[Act.put,xA,xB,xC,fR];try simp (disch:=(first|with_reducible rfl|fail)) only[more_row,alloc_row_past,alloc_row_at,drew_row,drewN_row])|((with_reducible refine gD (Op.load 214 _) ?_);refine take_el row214 rfl _ rfl g (off+k*2) rfl y (spC_size y) HC.out ?_;try simp only[Act.put,xA,xB,xC,fR]))
   go_quiet ((first|(go_at_call 143;exact Calls.quiet_of (field_any _ _ _ _))|(go_at_call 128;exact Calls.quiet_of_same ((set_any _ _ _ _ _).mono fun _ _ h=>⟨h.1,h.2.symm⟩))))
   go_wp2
   go_roundw
   case rel=>exact⟨k+1,_,b+y.s,by omega,by omega,by omega,rfl,rfl,by go_num,gath_cons x L k y HY.out a b _ HG.out,by(repeat(first|assumption|(refine Below.alloc ?_ ?_ _;rotate_left;(omega))|refine bl_drewN ?_ _))⟩
   case measure=>simp[intOf];omega
  ·have hkn:k=n:=by omega
   subst hkn
   go_wp2
   go_ret2
   obtain⟨e1,e2⟩:=gath_nil x L k HL.out.len a b _ HG.out
   exact⟨by rw[← e1,← e2];rfl,HB⟩
theorem scat_nil(L:List Sp)(n:Nat)(h:L.length=n)(v x r:U)(e:scat (L.drop n) v x=r):x=r:=by
 rw[List.drop_of_length_le (by omega)]at e
 exact e
theorem scat_cons(L:List Sp)(k:Nat)(y:Sp)(h:L[k]?=some y)(v x r:U)(e:scat (L.drop k) v x=r):scat (L.drop (k+1)) (shrU v y.s) (setU x y.p y.s v)=r:=by
 have hk:k<L.length:=(List.getElem?_eq_some_iff.1 h).1
 have hy:L[k]=y:=(List.getElem?_eq_some_iff.1 h).2
 rw[List.drop_eq_getElem_cons hk,hy]at e
 exact e
theorem scatter_any(v:U)(A:Option Addr)(n C:Nat)(L:List Sp)(w:World)(hL:Sl spC 2 w A n L)(hs:∀ y∈L,0≤y.s∧y.s≤31):Calls Tryz.prog 127 #[.int .u32 v.v,.slice A n C] w fun e w'=>e= .returned (.int .u32 (scat L v (U.of 0)).v)∧Below w.heap.size w w':=by
 have hn:=hL.few
 have HL:=Lib.hid hL
 have HS:=Lib.hid hs
 have x0:=v.lo
 have x1:=v.hi
 clear hL hs
 go_enter Tryz.func127,Tryz.ntmps127
 go_wp2
 go_loopw [0,5,10] (fun c s i wr=>∃(k:Nat) (a b:U),k≤n∧c= .int .u32 a.v∧s= .int .u32 b.v∧i= .int .i64 k∧Hid (scat (L.drop k) a b=scat L v (U.of 0))∧Below w.heap.size w wr) (fun _ _ i _=>n-(intOf i).toNat)
 case atStart=>exact⟨0,v,U.of 0,by omega,rfl,rfl,rfl,rfl,Below.refl _ _⟩
 case round=>
  obtain⟨k,a,b,hk,rfl,rfl,rfl,HG,HB⟩:=hrel
  have hBs:=HB.size
  have a0:=a.lo
  have a1:=a.hi
  by_cases hlt:k<n
  ·obtain⟨g,off,y,rfl,hg,hy,hc⟩:=(HL.out.below HB).at_ hlt
   have HY:=Lib.hid hy
   have HC:=Lib.hid hc
   have hz:=HS.out y (List.mem_of_getElem? hy)
   obtain⟨z0,z1⟩:=hz
   clear hy hc
   go_wp2_with (first|((with_reducible refine gAl 214 ?_);refine alloc_row (spC spZ) zero214 rfl rfl ?_;try simp only[Act.put,xA,xB,xC,fR])|((with_reducible refine gD (Op.store 214 _ _) ?_);apply store_row row214 rfl _ _ rfl _ (spC _) rfl rfl (spC_size _) (spC_ones _) (t:=214) (old:=spC _) (h2:=spC_size _);(·(repeat((refine heap_at _ _ _ ?_;(with_reducible rfl)))));try simp only[Act.put,xA,xB,xC,fR];try simp (disch:=(first|with_reducible rfl|fail)) only[more_row,alloc_row_past,alloc_row_at,drew_row,drewN_row])|((with_reducible refine gD (Op.load 214 _) ?_);refine take_el row214 rfl _ rfl g (off+k*2) rfl y (spC_size y) HC.out ?_;try simp only[Act.put,xA,xB,xC,fR])|(go_at_call 128;refine(set_any _ _ _ _ _).mono ?_;rintro r w1 ⟨rfl,rfl⟩))
   go_roundw
   case rel=>exact⟨k+1,shrU a y.s,_,by omega,by rfl,rfl,by go_num,scat_cons L k y HY.out a b _ HG.out,by(repeat(first|assumption|(refine Below.alloc ?_ ?_ _;rotate_left;(omega))))⟩
   case measure=>simp[intOf];omega
  ·have hkn:k=n:=by omega
   subst hkn
   go_wp2
   go_ret
   have e1:=scat_nil L k HL.out.len a b _ HG.out
   exact⟨by rw[← e1];rfl,HB⟩
theorem parts_ok(f:Int):∀ y∈parts f,0≤y.s∧y.s≤31:=by
 unfold parts
 repeat' split
 all_goals(intro y hy;simp at hy)
 all_goals(try(rcases hy with rfl|rfl|rfl|rfl))<;>(try(rcases hy with rfl|rfl))<;>(try subst hy)<;>decide
def byteAt(w:U)(k:Nat):Int:=w.v / 2 ^ (8*k) % 256
def byOf(ns:List Int):By:=ns.map fun n=>UInt8.ofNat n.toNat
def bytesL(w:U)(n:Nat):By:=byOf ((List.range n).map (byteAt w))
def bytesS(w:U)(size:Int):By×Int:=if size<0∨4<size then([],1)else(bytesL w size.toNat,0)
def joinN:By→Int
 | []=>0
 | b::l=>(b.toNat:Int)+256*joinN l
def joinS(s:By):U×Int:=if 4<s.length then(U.of 0,2)else(U.of (joinN s),0)
def okAt(size:Int)(a:U)(many:Int):Bool:=decide ((many=1∨many=2∨many=4)∧0≤size∧a.v % many=0∧a.v+many≤size)
def cutB(m:By)(a n:Nat):By:=(m.drop a).take n
def readM(m:By)(a:U)(many:Int):By×Int:=if okAt m.length a many then(cutB m a.v.toNat many.toNat,0)else([],1)
def lay(m:By)(a:Nat)(d:By):By:=m.take a++(d.take (m.length-a)++m.drop (a+d.length))
def loadM(op:Int)(s:By):U:=
 if kd op≠3∨(s.length:Int)≠sz op then U.of 0
 else if op=11 then sextU (joinS s).1 8 else if op=12 then sextU (joinS s).1 16 else(joinS s).1
def cleanM(m:By):By:=
 let m:=m.take 256
 let n:=if m.length≤16 then 16 else if m.length≤32 then 32 else if m.length≤64 then 64 else if m.length≤128 then 128 else 256
 m++List.replicate (n-m.length) 0
def fetchM(prog:List U)(pc:U):U×Bool:=
 if pc.v % 4≠0∨(prog.length:Int)≤pc.v / 4 then(U.of 0,false)else(prog.getD (pc.v / 4).toNat (U.of 0),true)
def lineU(a:U):U:=U.of (a.v-a.v % 16)
def pushQ(q:List Rq)(kind:Int)(line:U)(left:Int)(data:By):List Rq:=q++[⟨kind,line,if left<1 then 1 else left,data⟩]
def tickQ:List Rq→List Rq×Rq×Bool
 | []=>([],rqZ',false)
 | r::q=>if 0<wrap64 (r.left-1)then({ r with left:=wrap64 (r.left-1) }::q,rqZ',false)else(q,{ r with left:=wrap64 (r.left-1) },true)
 where rqZ':Rq:=⟨0,U.of 0,0,[]⟩
def hasQ(q:List Rq)(line:U)(kind:Int):Bool:=q.any fun r=>decide (r.line=line)&&decide (r.kind=kind)
def readsQ(q:List Rq):Nat:=(q.filter fun r=>decide (r.kind≠4)).length
def overM:By→List Pt→By
 | m,[]=>m
 | m,p::l=>overM (if p.addr.v<m.length then lay m p.addr.v.toNat p.data else m) l
def writesQ(q:List Rq):List Pt:=(q.filter fun r=>decide (r.kind=4)).map fun r=>⟨r.line,r.data⟩
def belowM(q:List Rq)(m:By):By:=overM m (writesQ q)
def linesC(c:Ca):List Pt:=c.sets.flatten.map fun y=>⟨y.line,y.data⟩
def underM(c:Ca)(q:List Rq)(m:By):By:=overM (belowM q m) (linesC c)
def allM(s:List Pt)(c:Ca)(q:List Rq)(m:By):By:=overM (underM c q m) s
def cutM(m:By)(line:U):By:=if(m.length:Int)≤(lineU line).v then []else cutB m (lineU line).v.toNat 16
def setNo(c:Ca)(line:U):Nat:=(line.v / 16 % (c.sets.length:Int)).toNat
def placeW:List Wy→U→Nat×Bool
 | [],_=>(0,false)
 | y::l,line=>if y.line=line then(0,true)else if(placeW l line).2 then((placeW l line).1+1,true)else(0,false)
def wayOk(c:Ca)(k:Nat)(before:List Wy)(y:Wy):Bool:=
 decide (lineU y.line=y.line)&&decide (setNo c y.line=k)&&(decide (y.data.length=0)||decide (y.data.length=16))&&!(placeW before y.line).2
def setOk(c:Ca)(k:Nat):List Wy→List Wy→Bool
 | _,[]=>true
 | before,y::l=>wayOk c k before y&&setOk c k (before++[y]) l
def setsOk(c:Ca):Nat→List (List Wy)→Bool
 | _,[]=>true
 | k,s::l=>decide ((s.length:Int)≤c.ways)&&setOk c k [] s&&setsOk c (k+1) l
def rightC(c:Ca):Bool:=decide ((c.sets.length=1∨c.sets.length=2∨c.sets.length=4)∧(c.ways=1∨c.ways=2))&&setsOk c 0 c.sets
def frontW(l:List Wy)(at_:Nat):List Wy:=l.getD at_ ⟨U.of 0,false,[]⟩::(l.take at_++l.drop (at_+1))
def withC(c:Ca)(k:Nat)(s:List Wy):Ca:={ ways:=c.ways,sets:=c.sets.set k s }
def findC(c:Ca)(line:U):Nat×Nat×Bool:=
 if rightC c then
  let k:=setNo c (lineU line)
  (k,(placeW (c.sets.getD k []) (lineU line)).1,(placeW (c.sets.getD k []) (lineU line)).2)
 else(0,0,false)
def touchC(c:Ca)(line:U):Ca:=
 let f:=findC c line
 if f.2.2 then withC c f.1 (frontW (c.sets.getD f.1 []) f.2.1)else c
def wyZ':Wy:=⟨U.of 0,false,[]⟩
def setHead(l:List Wy)(f:Wy→Wy):List Wy:=match l with|[]=>[]|y::l=>f y::l
def putC(c:Ca)(line:U)(data:By)(dirty:Bool):Ca×Wy×Bool:=
 if rightC c then
  let data:=if data.length≠16 then []else data
  let f:=findC c line
  let s:=c.sets.getD f.1 []
  if f.2.2 then
   (withC c f.1 (setHead (frontW s f.2.1) fun y=>{ y with data:=if data≠[]then data else y.data,dirty:=y.dirty||dirty }),wyZ',false)
  else
   let full:=decide ((s.length:Int)=c.ways)
   let stay:=if full then s.take (s.length-1)else s
   (withC c f.1 (⟨lineU line,dirty,data⟩::stay),if full then s.getD (s.length-1) wyZ' else wyZ',full)
 else(c,wyZ',false)
def writeC(c:Ca)(a:U)(b:By):Ca×Bool:=
 let f:=findC c a
 if f.2.2 then
  let s:=c.sets.getD f.1 []
  let d:=(s.getD f.2.1 wyZ').data
  let from_:=(a.v-(lineU a).v).toNat
  if d=[]∨16-(from_:Int)<b.length then(c,false)
  else(withC c f.1 (setHead (frontW s f.2.1) fun y=>{ y with data:=d.take from_++b++d.drop (from_+b.length),dirty:=true }),true)
 else(c,false)
def cleanC(c:Ca)(line:U):Ca:=
 let f:=findC c line
 if f.2.2 then
  let s:=c.sets.getD f.1 []
  withC c f.1 (s.set f.2.1 { s.getD f.2.1 wyZ' with dirty:=false })
 else c
def dirtyC(c:Ca):Wy×Bool:=
 if rightC c then(match c.sets.flatten.find? (·.dirty)with|some y=>(y,true)|none=>(wyZ',false))else(wyZ',false)
def newC(sets ways:Int):Ca:=
 let s:=if sets<1 then 1 else if 4<sets then 4 else sets
 let s:=if s=3 then 2 else s
 { ways:=if ways<1 then 1 else if 2<ways then 2 else ways,sets:=List.replicate s.toNat [] }
@[go_sem,simp] theorem bs_size(l:By):(bs l).size=l.length:=by simp[bs,ByteArray.size]
theorem bs_data(l:By):(bs l).data=l.toArray:=(rfl)
theorem bs_extract(l:By)(i j:Nat):(bs l).extract i j=bs ((l.take j).drop i):=by
 apply ByteArray.ext
 rw[ByteArray.data_extract,bs_data,bs_data]
 simp[List.drop_take]
theorem bs_cut(l:By)(i n:Nat):(bs l).extract i (i+n)=bs (cutB l i n):=by
 rw[bs_extract];unfold cutB;rw[List.drop_take];congr 2;omega
theorem bs_append(a b:By):bs a++bs b=bs (a++b):=by
 apply ByteArray.ext
 simp[bs]
theorem byOf_fold:∀(ns:List Int) (a:By),ns.foldl (fun r n=>ByteArray.push r (UInt8.ofNat n.toNat)) (bs a)=bs (a++byOf ns)
 | [],a=>by simp[byOf]
 | n::ns,a=>by
  rw[List.foldl_cons,show(bs a).push (UInt8.ofNat n.toNat)=bs (a++[UInt8.ofNat n.toNat])from ByteArray.ext (by simp[bs,ByteArray.push]),byOf_fold ns]
  simp[byOf]
theorem slice_str{w:World}{ops:Array Oper}{rest:List Oper}{o:Oper}{a:Act}{Q:Exit→Act→World→Prop}(hgd:o.guard=none)(x y z:Operand)(ho:o.op= .slice 9 x (some y) (some z) none)
 (m:By) (i j:Int) (k k':IntKind) (hx:a.eval x= .string (bs m)) (hy:a.eval y= .int k i) (hz:a.eval z= .int k' j) (h0:0≤i) (h1:i≤j) (h2:j≤m.length)
 (h:wpList Tryz.prog ops Q rest (a.put o.dst (.string (bs (cutB m i.toNat (j-i).toNat)))) w):wpList Tryz.prog ops Q (o::rest) a w:=by
 refine wpList_plain hgd fun K hK=>?_
 have hrun:=run_slice_string (P:=Tryz.prog) w 9 (bs m) k k' i j Tryz.underlying9 h0 h1 (by simpa using h2)
 rw[show j.toNat=i.toNat+(j-i).toNat by omega,bs_cut]at hrun
 have hat:(Instr.sliceAt 9 (.string (bs m)) (some (.int k i)) (some (.int k' j)) none).run Tryz.prog w= .ok (.string (bs (cutB m i.toNat (j-i).toNat))) w:=by
  rw[run_sliceAt_string _ 9 _ _ _ _ Tryz.underlying9];exact hrun
 unfold Oper.wp execOp
 simp only[ho,hx,hy,hz,Option.map_some,Option.map_none,Sem.run_bind,Sem.run_pure,Result.andThen_ok,hat]
 exact hK _ _ h
theorem slice_from{w:World}{ops:Array Oper}{rest:List Oper}{o:Oper}{a:Act}{Q:Exit→Act→World→Prop}(hgd:o.guard=none)(x y:Operand)(ho:o.op= .slice 9 x (some y) none none)
 (m:By) (i:Int) (k:IntKind) (hx:a.eval x= .string (bs m)) (hy:a.eval y= .int k i) (h0:0≤i) (h2:i≤m.length)
 (h:wpList Tryz.prog ops Q rest (a.put o.dst (.string (bs (m.drop i.toNat)))) w):wpList Tryz.prog ops Q (o::rest) a w:=by
 refine wpList_plain hgd fun K hK=>?_
 have hrun:=run_slice_string_from_if (P:=Tryz.prog) w 9 (bs m) k i Tryz.underlying9
 rw[if_pos ⟨h0,by simpa using h2⟩,bs_extract,bs_size,List.take_length]at hrun
 have hat:(Instr.sliceAt 9 (.string (bs m)) (some (.int k i)) none none).run Tryz.prog w= .ok (.string (bs (m.drop i.toNat))) w:=by
  rw[run_sliceAt_string _ 9 _ _ _ _ Tryz.underlying9];exact hrun
 unfold Oper.wp execOp
 simp only[ho,hx,hy,Option.map_some,Option.map_none,Sem.run_bind,Sem.run_pure,Result.andThen_ok,hat]
 exact hK _ _ h
theorem slice_to{w:World}{ops:Array Oper}{rest:List Oper}{o:Oper}{a:Act}{Q:Exit→Act→World→Prop}(hgd:o.guard=none)(x y:Operand)(ho:o.op= .slice 9 x none (some y) none)
 (m:By) (i:Int) (k:IntKind) (hx:a.eval x= .string (bs m)) (hy:a.eval y= .int k i) (h0:0≤i) (h2:i≤m.length)
 (h:wpList Tryz.prog ops Q rest (a.put o.dst (.string (bs (m.take i.toNat)))) w):wpList Tryz.prog ops Q (o::rest) a w:=by
 refine wpList_plain hgd fun K hK=>?_
 have hrun:=run_slice_string_to_if (P:=Tryz.prog) w 9 (bs m) k i Tryz.underlying9
 rw[if_pos ⟨h0,by simpa using h2⟩,bs_extract,List.drop_zero]at hrun
 have hat:(Instr.sliceAt 9 (.string (bs m)) none (some (.int k i)) none).run Tryz.prog w= .ok (.string (bs (m.take i.toNat))) w:=by
  rw[run_sliceAt_string _ 9 _ _ _ _ Tryz.underlying9];exact hrun
 unfold Oper.wp execOp
 simp only[ho,hx,hy,Option.map_some,Option.map_none,Sem.run_bind,Sem.run_pure,Result.andThen_ok,hat]
 exact hK _ _ h
theorem conv_str{w:World}{ops:Array Oper}{rest:List Oper}{o:Oper}{a:Act}{Q:Exit→Act→World→Prop}(hgd:o.guard=none)(x:Operand)(ho:o.op= .convert 77 9 x)
 (g off n c:Nat) (hx:a.eval x= .slice (some ⟨g,off,none⟩) n c) (ns:List Int) (hn:ns.length=n) (hc:∀ j v,(ns.map (Value.int .u8))[j]?=some v→w.cell? ⟨g,off+j,none⟩=some v)
 (h:wpList Tryz.prog ops Q rest (a.put o.dst (.string (bs (byOf ns)))) w):wpList Tryz.prog ops Q (o::rest) a w:=by
 refine wpList_plain hgd fun K hK=>?_
 have hl:(loadCells ⟨g,off,none⟩ n).run Tryz.prog w= .ok (ns.map (Value.int .u8)).toArray w:=by
  have:=run_loadCells_list (P:=Tryz.prog) w ⟨g,off,none⟩ (ns.map (Value.int .u8)) (fun j v hv=>by
   have hadd:(⟨g,off,none⟩:Addr).add j=⟨g,off+j,none⟩:=by unfold Addr.add;split<;>simp_all
   rw[hadd];exact hc j v hv)
  rwa [List.length_map,hn]at this
 have hrun:(convert 77 9 (.slice (some ⟨g,off,none⟩) n c)).run Tryz.prog w= .ok (.string (bs (byOf ns))) w:=by
  rw[run_convert_bytes_string w 77 9 5 _ n c Tryz.underlying77 Tryz.underlying5 Tryz.underlying9,run_bytesToString w _ n c ns hl]
  have:=byOf_fold ns []
  rw[List.nil_append]at this
  rw[← this];rfl
 unfold Oper.wp execOp
 simp only[ho,hx,Sem.run_bind,Sem.run_pure,Result.andThen_ok,hrun]
 exact hK _ _ h
theorem mk77_0(W:World):(Instr.makeSlice 77 (.int .i64 0) (.int .i64 0)).run Tryz.prog W= .ok (.slice (some ⟨W.heap.size,0,none⟩) 0 0) (W.alloc (.cells #[] 5)):=by kernel_rfl
theorem mk77_1(W:World):(Instr.makeSlice 77 (.int .i64 1) (.int .i64 1)).run Tryz.prog W= .ok (.slice (some ⟨W.heap.size,0,none⟩) 1 1) (W.alloc (.cells #[.int .u8 0] 5)):=by kernel_rfl
theorem mk77_2(W:World):(Instr.makeSlice 77 (.int .i64 2) (.int .i64 2)).run Tryz.prog W= .ok (.slice (some ⟨W.heap.size,0,none⟩) 2 2) (W.alloc (.cells #[.int .u8 0,.int .u8 0] 5)):=by kernel_rfl
theorem mk77_3(W:World):(Instr.makeSlice 77 (.int .i64 3) (.int .i64 3)).run Tryz.prog W= .ok (.slice (some ⟨W.heap.size,0,none⟩) 3 3) (W.alloc (.cells #[.int .u8 0,.int .u8 0,.int .u8 0] 5)):=by kernel_rfl
theorem mk77_4(W:World):(Instr.makeSlice 77 (.int .i64 4) (.int .i64 4)).run Tryz.prog W= .ok (.slice (some ⟨W.heap.size,0,none⟩) 4 4) (W.alloc (.cells #[.int .u8 0,.int .u8 0,.int .u8 0,.int .u8 0] 5)):=by kernel_rfl
theorem cells_at{w:World}{g:Nat}{cs:List Value}{t:TypeId}{fr:Nat×Nat}(hg:w.heap[g]?=some (.cells cs.toArray t fr))(j:Nat)(v:Value)(h:cs[j]?=some v):w.cell? ⟨g,0+j,none⟩=some v:=by
 rw[Nat.zero_add,cell_of_row w g j _ t fr hg];simpa using h
def BytP(x:U)(s:Int)(w:World)(e:Ending)(w':World):Prop:=e= .returned (.tuple #[.string (bs (bytesS x s).1),.int .i64 (bytesS x s).2])∧Below w.heap.size w w'
theorem ret_byt{x:U}{s:Int}{l:By}{z:Int}(h:bytesS x s=(l,z)):Ending.returned (.tuple #[.string (bs l),.int .i64 z])= .returned (.tuple #[.string (bs (bytesS x s).1),.int .i64 (bytesS x s).2]):=by rw[h]
theorem byt_in(x:U)(n:Nat)(hn:n≤4)(ns:List Int)(h:(List.range n).map (byteAt x)=ns):bytesS x n=(byOf ns,0):=by
 unfold bytesS;rw[if_neg (by omega)];unfold bytesL;rw[Int.toNat_natCast,h]
theorem bytes_any(x:U)(s:Int)(w:World):Calls Tryz.prog 89 #[.int .u32 x.v,.int .i64 s] w (BytP x s w):=by
 have x0:=x.lo
 have x1:=x.hi
 have m0:=mk77_0
 have m1:=mk77_1
 have m2:=mk77_2
 have m3:=mk77_3
 have m4:=mk77_4
 by_cases c:s<0∨4<s
 ·have E:=Lib.hid (show bytesS x s=([],1) by unfold bytesS;rw[if_pos c])
  rcases c with c|c
  all_goals
   go_enter Tryz.func89,Tryz.ntmps89
   go_wp2
   go_ret2
   exact⟨ret_byt E.out,by(repeat(exact Below.refl _ _))⟩
 ·have c':s=0∨s=1∨s=2∨s=3∨s=4:=by omega
  clear c
  rcases c' with rfl|rfl|rfl|rfl|rfl
  ·go_enter Tryz.func89,Tryz.ntmps89
   go_wp2
   refine wp_loop_rounds 1 ?_
   rw[rounds_succ]
   go_wp2_with ((with_reducible refine gD (Op.convert 77 9 _) ?_);refine conv_str rfl _ rfl _ _ _ _ rfl [] rfl (cells_at (heap_at _ _ _ rfl)) ?_;try simp only[Act.put,xA,xB,xC,fR])
   go_ret2
   exact⟨ret_byt (byt_in x 0 (by omega) _ rfl),by(repeat(first|exact Below.refl _ _|(refine Below.alloc ?_ ?_ _;rotate_left;(omega))))⟩
  ·go_enter Tryz.func89,Tryz.ntmps89
   go_wp2
   refine wp_loop_rounds 2 ?_
   rw[rounds_succ]
   go_wp2
   rw[rounds_succ]
   go_wp2_with ((with_reducible refine gD (Op.convert 77 9 _) ?_);refine conv_str rfl _ rfl _ _ _ _ rfl [x.v % 256] rfl (cells_at (heap_at _ _ _ rfl)) ?_;try simp only[Act.put,xA,xB,xC,fR])
   go_ret2
   exact⟨ret_byt (byt_in x 1 (by omega) _ (by simp[List.range_succ,byteAt])),by(repeat(first|exact Below.refl _ _|(refine Below.alloc ?_ ?_ _;rotate_left;(omega))))⟩
  ·go_enter Tryz.func89,Tryz.ntmps89
   go_wp2
   refine wp_loop_rounds 3 ?_
   rw[rounds_succ]
   go_wp2
   rw[rounds_succ]
   go_wp2
   rw[rounds_succ]
   go_wp2_with ((with_reducible refine gD (Op.convert 77 9 _) ?_);refine conv_str rfl _ rfl _ _ _ _ rfl [x.v % 256,x.v / 256 % 256] rfl (cells_at (heap_at _ _ _ rfl)) ?_;try simp only[Act.put,xA,xB,xC,fR])
   go_ret2
   exact⟨ret_byt (byt_in x 2 (by omega) _ (by simp[List.range_succ,byteAt])),by(repeat(first|exact Below.refl _ _|(refine Below.alloc ?_ ?_ _;rotate_left;(omega))))⟩
  ·go_enter Tryz.func89,Tryz.ntmps89
   go_wp2
   refine wp_loop_rounds 4 ?_
   rw[rounds_succ]
   go_wp2
   rw[rounds_succ]
   go_wp2
   rw[rounds_succ]
   go_wp2
   rw[rounds_succ]
   go_wp2_with ((with_reducible refine gD (Op.convert 77 9 _) ?_);refine conv_str rfl _ rfl _ _ _ _ rfl [x.v % 256,x.v / 256 % 256,x.v / 65536 % 256] rfl (cells_at (heap_at _ _ _ rfl)) ?_;try simp only[Act.put,xA,xB,xC,fR])
   go_ret2
   exact⟨ret_byt (byt_in x 3 (by omega) _ (by simp[List.range_succ,byteAt])),by(repeat(first|exact Below.refl _ _|(refine Below.alloc ?_ ?_ _;rotate_left;(omega))))⟩
  ·go_enter Tryz.func89,Tryz.ntmps89
   go_wp2
   refine wp_loop_rounds 5 ?_
   rw[rounds_succ]
   go_wp2
   rw[rounds_succ]
   go_wp2
   rw[rounds_succ]
   go_wp2
   rw[rounds_succ]
   go_wp2
   rw[rounds_succ]
   go_wp2_with ((with_reducible refine gD (Op.convert 77 9 _) ?_);refine conv_str rfl _ rfl _ _ _ _ rfl [x.v % 256,x.v / 256 % 256,x.v / 65536 % 256,x.v / 16777216] rfl (cells_at (heap_at _ _ _ rfl)) ?_;try simp only[Act.put,xA,xB,xC,fR])
   go_ret2
   exact⟨ret_byt (byt_in x 4 (by omega) _ (by simp[List.range_succ,byteAt];omega)),by(repeat(first|exact Below.refl _ _|(refine Below.alloc ?_ ?_ _;rotate_left;(omega))))⟩
def JoiP(s:By)(w:World)(e:Ending)(w':World):Prop:=e= .returned (.tuple #[.int .u32 (joinS s).1.v,.int .i64 (joinS s).2])∧w=w'
theorem ret_joi{s:By}{x z:Int}(h:(joinS s).1.v=x∧(joinS s).2=z):Ending.returned (.tuple #[.int .u32 x,.int .i64 z])= .returned (.tuple #[.int .u32 (joinS s).1.v,.int .i64 (joinS s).2]):=by rw[h.1,h.2]
theorem join_step(a b:Int)(k:Nat)(h0:0≤a)(h1:a<2 ^ k)(b0:0≤b)(hb:b*2 ^ k<4294967296)(ha:a<4294967296):bits .or .u32 a (b*2 ^ k)=a+b*2 ^ k:=by
 have p:(0:Int)≤b*2 ^ k:=Int.mul_nonneg b0 (Int.le_of_lt (Int.pow_pos (by decide)))
 rw[u32_or a _ h0 ha p hb]
 obtain⟨A,rfl⟩:=Int.eq_ofNat_of_zero_le h0
 obtain⟨B,rfl⟩:=Int.eq_ofNat_of_zero_le b0
 have hA:A<2 ^ k:=by
  have:((A:Nat):Int)<((2 ^ k:Nat):Int):=by rw[Int.natCast_pow];exact h1
  exact Int.ofNat_lt.1 this
 have e1:((B:Int)*2 ^ k).toNat=2 ^ k*B:=by
  have:((B:Int)*2 ^ k)=((2 ^ k*B:Nat):Int):=by rw[Int.natCast_mul,Int.natCast_pow,Int.mul_comm];rfl
  rw[this,Int.toNat_natCast]
 rw[e1,Int.toNat_natCast,Nat.or_comm,← Nat.two_pow_add_eq_or_of_lt hA]
 rw[Int.natCast_add,Int.natCast_mul,Int.natCast_pow,Int.mul_comm,Int.add_comm]
 rfl
theorem u8_bd(b:UInt8):0≤(b.toNat:Int)∧(b.toNat:Int)≤255:=by
 have:=b.toNat_lt
 omega
theorem join_v{s:By}(h:s.length≤4):(joinS s).1.v=joinN s % 4294967296∧(joinS s).2=0:=by
 unfold joinS;rw[if_neg (by omega)];exact⟨rfl,rfl⟩
theorem join_any(s:By)(hs:s.length≤1000000)(w:World):Calls Tryz.prog 108 #[.string (bs s)] w (JoiP s w):=by
 match s with
 | []=>
  go_enter Tryz.func108,Tryz.ntmps108
  go_wp2
  refine wp_loop_rounds 1 ?_
  rw[rounds_succ]
  go_wp2
  go_ret2
  exact⟨ret_joi ⟨rfl,rfl⟩,rfl⟩
 | [a]=>
  obtain⟨a0,a1⟩:=u8_bd a
  have g0:∀ h,(bs [a])[0]'h=a:=fun h=>rfl
  have p0:bits .or .u32 0 (a.toNat:Int)=(a.toNat:Int):=by have:=join_step 0 a.toNat 0 (by omega) (by decide) (by omega) (by omega) (by omega);simpa using this
  go_enter Tryz.func108,Tryz.ntmps108
  go_wp2
  refine wp_loop_rounds 2 ?_
  rw[rounds_succ]
  go_wp2
  rw[rounds_succ]
  go_wp2
  go_ret2
  have q:=join_v (s:=[a]) (by simp)
  exact⟨ret_joi ⟨q.1.trans (by simp only[joinN];omega),q.2⟩,rfl⟩
 | [a,b]=>
  obtain⟨a0,a1⟩:=u8_bd a
  obtain⟨b0,b1⟩:=u8_bd b
  have g0:∀ h,(bs [a,b])[0]'h=a:=fun h=>rfl
  have g1:∀ h,(bs [a,b])[1]'h=b:=fun h=>rfl
  have p0:bits .or .u32 0 (a.toNat:Int)=(a.toNat:Int):=by have:=join_step 0 a.toNat 0 (by omega) (by decide) (by omega) (by omega) (by omega);simpa using this
  have p1:bits .or .u32 ((a.toNat:Int)) ((b.toNat:Int)*256)=(a.toNat:Int)+(b.toNat:Int)*256:=join_step ((a.toNat:Int)) b.toNat 8 (by omega) (by omega) (by omega) (by omega) (by omega)
  go_enter Tryz.func108,Tryz.ntmps108
  go_wp2
  refine wp_loop_rounds 3 ?_
  rw[rounds_succ]
  go_wp2
  rw[rounds_succ]
  go_wp2
  rw[rounds_succ]
  go_wp2
  go_ret2
  have q:=join_v (s:=[a,b]) (by simp)
  exact⟨ret_joi ⟨q.1.trans (by simp only[joinN];omega),q.2⟩,rfl⟩
 | [a,b,c]=>
  obtain⟨a0,a1⟩:=u8_bd a
  obtain⟨b0,b1⟩:=u8_bd b
  obtain⟨c0,c1⟩:=u8_bd c
  have g0:∀ h,(bs [a,b,c])[0]'h=a:=fun h=>rfl
  have g1:∀ h,(bs [a,b,c])[1]'h=b:=fun h=>rfl
  have g2:∀ h,(bs [a,b,c])[2]'h=c:=fun h=>rfl
  have p0:bits .or .u32 0 (a.toNat:Int)=(a.toNat:Int):=by have:=join_step 0 a.toNat 0 (by omega) (by decide) (by omega) (by omega) (by omega);simpa using this
  have p1:bits .or .u32 ((a.toNat:Int)) ((b.toNat:Int)*256)=(a.toNat:Int)+(b.toNat:Int)*256:=join_step ((a.toNat:Int)) b.toNat 8 (by omega) (by omega) (by omega) (by omega) (by omega)
  have p2:bits .or .u32 ((a.toNat:Int)+(b.toNat:Int)*256) ((c.toNat:Int)*65536)=(a.toNat:Int)+(b.toNat:Int)*256+(c.toNat:Int)*65536:=join_step ((a.toNat:Int)+(b.toNat:Int)*256) c.toNat 16 (by omega) (by omega) (by omega) (by omega) (by omega)
  go_enter Tryz.func108,Tryz.ntmps108
  go_wp2
  refine wp_loop_rounds 4 ?_
  rw[rounds_succ]
  go_wp2
  rw[rounds_succ]
  go_wp2
  rw[rounds_succ]
  go_wp2
  rw[rounds_succ]
  go_wp2
  go_ret2
  have q:=join_v (s:=[a,b,c]) (by simp)
  exact⟨ret_joi ⟨q.1.trans (by simp only[joinN];omega),q.2⟩,rfl⟩
 | [a,b,c,d]=>
  obtain⟨a0,a1⟩:=u8_bd a
  obtain⟨b0,b1⟩:=u8_bd b
  obtain⟨c0,c1⟩:=u8_bd c
  obtain⟨d0,d1⟩:=u8_bd d
  have g0:∀ h,(bs [a,b,c,d])[0]'h=a:=fun h=>rfl
  have g1:∀ h,(bs [a,b,c,d])[1]'h=b:=fun h=>rfl
  have g2:∀ h,(bs [a,b,c,d])[2]'h=c:=fun h=>rfl
  have g3:∀ h,(bs [a,b,c,d])[3]'h=d:=fun h=>rfl
  have p0:bits .or .u32 0 (a.toNat:Int)=(a.toNat:Int):=by have:=join_step 0 a.toNat 0 (by omega) (by decide) (by omega) (by omega) (by omega);simpa using this
  have p1:bits .or .u32 ((a.toNat:Int)) ((b.toNat:Int)*256)=(a.toNat:Int)+(b.toNat:Int)*256:=join_step ((a.toNat:Int)) b.toNat 8 (by omega) (by omega) (by omega) (by omega) (by omega)
  have p2:bits .or .u32 ((a.toNat:Int)+(b.toNat:Int)*256) ((c.toNat:Int)*65536)=(a.toNat:Int)+(b.toNat:Int)*256+(c.toNat:Int)*65536:=join_step ((a.toNat:Int)+(b.toNat:Int)*256) c.toNat 16 (by omega) (by omega) (by omega) (by omega) (by omega)
  have p3:bits .or .u32 ((a.toNat:Int)+(b.toNat:Int)*256+(c.toNat:Int)*65536) ((d.toNat:Int)*16777216)=(a.toNat:Int)+(b.toNat:Int)*256+(c.toNat:Int)*65536+(d.toNat:Int)*16777216:=join_step ((a.toNat:Int)+(b.toNat:Int)*256+(c.toNat:Int)*65536) d.toNat 24 (by omega) (by omega) (by omega) (by omega) (by omega)
  go_enter Tryz.func108,Tryz.ntmps108
  go_wp2
  refine wp_loop_rounds 5 ?_
  rw[rounds_succ]
  go_wp2
  rw[rounds_succ]
  go_wp2
  rw[rounds_succ]
  go_wp2
  rw[rounds_succ]
  go_wp2
  rw[rounds_succ]
  go_wp2
  go_ret2
  have q:=join_v (s:=[a,b,c,d]) (by simp)
  exact⟨ret_joi ⟨q.1.trans (by simp only[joinN];omega),q.2⟩,rfl⟩
 | a::b::c::d::e::l=>
  have hl:l.length≤999995:=by simp at hs;omega
  go_enter Tryz.func108,Tryz.ntmps108
  go_wp2
  go_ret2
  exact⟨ret_joi ⟨rfl,rfl⟩,rfl⟩
section
variable {a:Act} {w:World} {fn:Func} {R:Ending→World→Prop}
theorem ret_ct{p q:Tmp}{T n:Nat}(hT:IsRow T n)(hr:fn.results=#[.cell p T,.tmp q])(g:Nat)(cs:Array Value)(hp:a.tmps.getD p undef= .pointer (some ⟨g,0,none⟩))(hs:cs.size=n)
 {t:TypeId} {fr:Nat×Nat} (hg:w.heap[g]?=some (.cells cs t fr)) (hd:a.defers=[]) (h:R (.returned (.tuple #[.agg cs,a.tmps.getD q undef])) w):bodyPost Tryz.prog fn R .ret a w:=by
 refine bodyPost_ret (v:=.tuple #[.agg cs,a.tmps.getD q undef]) ?_ hd h
 have hp':a.tmps[p]?.getD undef= .pointer (some ⟨g,0,none⟩):=by simpa using hp
 simp[results,hr,hp',asAddr,load_row hT g cs hs hg]
theorem ret_tct{p q r:Tmp}{T n:Nat}(hT:IsRow T n)(hr:fn.results=#[.tmp q,.cell p T,.tmp r])(g:Nat)(cs:Array Value)(hp:a.tmps.getD p undef= .pointer (some ⟨g,0,none⟩))(hs:cs.size=n)
 {t:TypeId} {fr:Nat×Nat} (hg:w.heap[g]?=some (.cells cs t fr)) (hd:a.defers=[]) (h:R (.returned (.tuple #[a.tmps.getD q undef,.agg cs,a.tmps.getD r undef])) w):bodyPost Tryz.prog fn R .ret a w:=by
 refine bodyPost_ret (v:=.tuple #[a.tmps.getD q undef,.agg cs,a.tmps.getD r undef]) ?_ hd h
 have hp':a.tmps[p]?.getD undef= .pointer (some ⟨g,0,none⟩):=by simpa using hp
 simp[results,hr,hp',asAddr,load_row hT g cs hs hg]
theorem ret_ctt{p q r:Tmp}{T n:Nat}(hT:IsRow T n)(hr:fn.results=#[.cell p T,.tmp q,.tmp r])(g:Nat)(cs:Array Value)(hp:a.tmps.getD p undef= .pointer (some ⟨g,0,none⟩))(hs:cs.size=n)
 {t:TypeId} {fr:Nat×Nat} (hg:w.heap[g]?=some (.cells cs t fr)) (hd:a.defers=[]) (h:R (.returned (.tuple #[.agg cs,a.tmps.getD q undef,a.tmps.getD r undef])) w):bodyPost Tryz.prog fn R .ret a w:=by
 refine bodyPost_ret (v:=.tuple #[.agg cs,a.tmps.getD q undef,a.tmps.getD r undef]) ?_ hd h
 have hp':a.tmps[p]?.getD undef= .pointer (some ⟨g,0,none⟩):=by simpa using hp
 simp[results,hr,hp',asAddr,load_row hT g cs hs hg]
theorem ret_cct{p q r:Tmp}{T n U' n':Nat}(hT:IsRow T n)(hU:IsRow U' n')(hr:fn.results=#[.cell p T,.cell q U',.tmp r])(g g':Nat)(cs cs':Array Value)(hp:a.tmps.getD p undef= .pointer (some ⟨g,0,none⟩))(hq:a.tmps.getD q undef= .pointer (some ⟨g',0,none⟩))(hs:cs.size=n)(hs':cs'.size=n')
 {t t':TypeId} {fr fr':Nat×Nat} (hg:w.heap[g]?=some (.cells cs t fr)) (hg':w.heap[g']?=some (.cells cs' t' fr')) (hd:a.defers=[]) (h:R (.returned (.tuple #[.agg cs,.agg cs',a.tmps.getD r undef])) w):bodyPost Tryz.prog fn R .ret a w:=by
 refine bodyPost_ret (v:=.tuple #[.agg cs,.agg cs',a.tmps.getD r undef]) ?_ hd h
 have hp':a.tmps[p]?.getD undef= .pointer (some ⟨g,0,none⟩):=by simpa using hp
 have hq':a.tmps[q]?.getD undef= .pointer (some ⟨g',0,none⟩):=by simpa using hq
 simp[results,hr,hp',hq',asAddr,load_row hT g cs hs hg,load_row hU g' cs' hs' hg']
end
theorem Ow.sl2{α:Type}{lay:α→Array Value}{k:Nat}{w:World}{base:Nat}{e:TypeId}{v:Value}{L:List α}(h:Ow lay k w base e v L)(hk:∀ x,(lay x).size=k):∃ A C,v= .slice A L.length C∧Sl lay k w A L.length L∧Wf A L.length C∧(∀ p,A=some p→base≤p.block):=by
 obtain⟨A,C,e1,f1,f2,f3,f4⟩:=h.sl hk
 refine⟨A,C,e1,f1,⟨f2,f4,?_⟩,f3⟩
 subst e1
 rcases h.1.2 with⟨hv,_⟩|⟨g,cap,cur,hv,_,_,_,hm,_⟩
 ·simp only[Value.slice.injEq]at hv;omega
 ·simp only[Value.slice.injEq]at hv
  obtain⟨_,_,e3⟩:=hv
  rw[e3];exact hm
theorem Sl.same{α:Type}{lay:α→Array Value}{k:Nat}{w w':World}{A:Option Addr}{n:Nat}{L:List α}(h:Sl lay k w A n L)(hz:w.heap.size≤w'.heap.size)(hs:∀ g off,A=some ⟨g,off,none⟩→w'.heap[g]?=w.heap[g]?):Sl lay k w' A n L:=by
 refine⟨h.1,h.2.1,fun hn=>?_⟩
 obtain⟨g,off,e,hg,hc⟩:=h.2.2 hn
 refine⟨g,off,e,by omega,fun i x j v hx hv=>?_⟩
 rw[World.cell?_of_block (a:=⟨g,_,none⟩) (hs g off e)]
 exact hc i x j v hx hv
theorem Ow.slv{α:Type}{lay:α→Array Value}{k:Nat}{w:World}{base n c:Nat}{A:Option Addr}{e:TypeId}{L:List α}(h:Ow lay k w base e (.slice A n c) L)(hk:∀ x,(lay x).size=k):Sl lay k w A n L∧Wf A n c∧L.length=n:=by
 obtain⟨A',C,e1,f1,f2,_⟩:=h.sl2 hk
 simp only[Value.slice.injEq]at e1
 obtain⟨e2,e3,e4⟩:=e1
 subst e2 e3 e4
 exact⟨f1,f2,rfl⟩
theorem Ow.set0{α:Type}{lay:α→Array Value}{k:Nat}{w:World}{base g n c j:Nat}{e:TypeId}{x x':α}{L:List α}{u:Value}(h:Ow lay k w base e (.slice (some ⟨g,0,none⟩) n c) (x::L))(hk:∀ x,(lay x).size=k)(hj:j<k)(hx:lay x'=(lay x).setIfInBounds j u):Ow lay k (w.setCell ⟨g,j,none⟩ u) base e (.slice (some ⟨g,0,none⟩) n c) (x'::L):=by
 have:=h.set hk (i:=0) (x:=x) (x':=x') (u:=u) rfl hj hx
 simpa using this
theorem Ow.drew{α:Type}{lay:α→Array Value}{k:Nat}{w:World}{base:Nat}{e:TypeId}{v:Value}{L:List α}(h:Ow lay k w base e v L):Ow lay k w.drew base e v L:=h.same fun _ _=>rfl
theorem own_cell{α:Type}{lay:α→Array Value}{k:Nat}{w:World}{base g n c:Nat}{e:TypeId}{L:List α}(h:Ow lay k w base e (.slice (some ⟨g,0,none⟩) n c) L)(hk:∀ x,(lay x).size=k){i j:Nat}{x:α}{u:Value}(hi:L[i]?=some x)(hu:(lay x)[j]?=some u):w.cell? ⟨g,i*k+j,none⟩=some u∧w.frozen? ⟨g,i*k+j,none⟩=false:=by
 obtain⟨A,C,e1,f1,_⟩:=h.sl hk
 simp only[Value.slice.injEq]at e1
 obtain⟨e2,_,_⟩:=e1
 subst e2
 have hl:=(List.getElem?_eq_some_iff.1 hi).1
 obtain⟨g',off',e3,_,hc⟩:=f1.2.2 (by omega)
 simp only[Option.some.injEq,Addr.mk.injEq]at e3
 obtain⟨e4,e5,_⟩:=e3
 subst e4 e5
 refine⟨by have:=hc i x j u hi hu;rwa [Nat.zero_add]at this,?_⟩
 obtain⟨g2,c2,cur,e6,_,hg,_⟩:=h.lies (by omega)
 simp only[Value.slice.injEq,Option.some.injEq,Addr.mk.injEq]at e6
 obtain⟨⟨e7,_⟩,_,_⟩:=e6
 subst e7
 exact frozen_row hg
def Av(X:Nat→Prop)(A:Option Addr)(n:Nat):Prop:=0<n→∀ p,A=some p→X p.block
def CaX(X:Nat→Prop)(w:World)(s:Sv)(c:Ca):Prop:=∃ T,Sl svC 1 w s.a s.n T∧Wf s.a s.n s.c∧Sets w T c.sets∧Av X s.a s.n∧∀ t∈T,Av X t.a t.n
section
variable {X Y:Nat→Prop} {w w':World} {s:Sv} {c:Ca}
theorem CaX.toR(h:CaX X w s c):CaR w s c:=by
 obtain⟨T,h1,h2,h3,_⟩:=h
 exact⟨T,h1,h2,h3⟩
theorem CaX.below(h:CaX X w s c)(hb:Below w.heap.size w w'):CaX X w' s c:=by
 obtain⟨T,h1,h2,h3,h4,h5⟩:=h
 exact⟨T,h1.below hb,h2,h3.below hb,h4,h5⟩
theorem CaX.mono(h:CaX X w s c)(hXY:∀ j,X j→j<w.heap.size→Y j):CaX Y w s c:=by
 obtain⟨T,h1,h2,h3,h4,h5⟩:=h
 refine⟨T,h1,h2,h3,fun hn p hp=>?_,fun t ht hn p hp=>?_⟩
 ·obtain⟨g,off,e,hg,_⟩:=h1.2.2 hn
  rw[e]at hp;cases hp
  exact hXY _ (h4 hn _ e) hg
 ·obtain⟨i,hi⟩:=List.getElem?_of_mem ht
  have hi':=(List.getElem?_eq_some_iff.1 hi).1
  have hj:i<c.sets.length:=by rw[← h3.1];exact hi'
  obtain⟨g,off,e,hg,_⟩:=(h3.2 i t _ hi (List.getElem?_eq_getElem hj)).1.2.2 hn
  rw[e]at hp;cases hp
  exact hXY _ (h5 t ht hn _ e) hg
theorem CaR.toX(h:CaR w s c):CaX (fun j=>j<w.heap.size) w s c:=by
 obtain⟨T,h1,h2,h3⟩:=h
 have h:CaX (fun _=>True) w s c:=⟨T,h1,h2,h3,fun _ _ _=>trivial,fun _ _ _ _ _=>trivial⟩
 exact h.mono fun j _ hj=>hj
theorem Sl.sameX{α:Type}{lay:α→Array Value}{k:Nat}{A:Option Addr}{n:Nat}{L:List α}(h:Sl lay k w A n L)(hA:Av X A n)(hz:w.heap.size≤w'.heap.size)(hs:∀ j,X j→w'.heap[j]?=w.heap[j]?):Sl lay k w' A n L:=by
 refine⟨h.1,h.2.1,fun hn=>?_⟩
 obtain⟨g,off,e,hg,hc⟩:=h.2.2 hn
 refine⟨g,off,e,by omega,fun i x j v hx hv=>?_⟩
 rw[World.cell?_of_block (a:=⟨g,_,none⟩) (hs g (hA hn _ e))]
 exact hc i x j v hx hv
theorem CaX.same(h:CaX X w s c)(hz:w.heap.size≤w'.heap.size)(hs:∀ j,X j→w'.heap[j]?=w.heap[j]?):CaX X w' s c:=by
 obtain⟨T,h1,h2,h3,h4,h5⟩:=h
 exact⟨T,h1.sameX h4 hz hs,h2,⟨h3.1,fun i t L ht hL=>⟨(h3.2 i t L ht hL).1.sameX (h5 t (List.mem_of_getElem? ht)) hz hs,(h3.2 i t L ht hL).2⟩⟩,h4,h5⟩
end
theorem more_off{X Y:World}{b:Nat}(hsz:Y.heap.size=X.heap.size)(hXY:∀ j,j≠b→Y.heap[j]?=X.heap[j]?)(os:Array Obj)(k k':Nat){j:Nat}(hj:j≠b):(more Y os k').heap[j]?=(more X os k).heap[j]?:=by
 show(Y.heap++os)[j]?=(X.heap++os)[j]?
 rw[Array.getElem?_append,Array.getElem?_append,hsz]
 split
 ·exact hXY j hj
 ·rfl
theorem off2(W:World)(b:Nat)(v0 v1:Value):∀ j,j≠b→((W.setCell ⟨b,0,none⟩ v0).setCell ⟨b,1,none⟩ v1).heap[j]?=W.heap[j]?:=fun j h=>by rw[Below.heap_setCell _ _ _ _ h,Below.heap_setCell _ _ _ _ h]
section
variable {a:Act} {w:World} {fn:Func} {R:Ending→World→Prop}
theorem load_cs{T n g:Nat}(hT:IsRow T n){cs:Array Value}(hs:cs.size=n)(hc:∀ j v,cs[j]?=some v→w.cell? ⟨g,j,none⟩=some v):(loadVar T ⟨g,0,none⟩).run Tryz.prog w= .ok (.agg cs) w:=
 load_at hT g 0 cs hs (fun j v h=>by rw[Nat.zero_add];exact hc j v h)
theorem ret_tct2{p q r:Tmp}{T n:Nat}(hT:IsRow T n)(hr:fn.results=#[.tmp q,.cell p T,.tmp r])(g:Nat)(cs:Array Value)(hp:a.tmps.getD p undef= .pointer (some ⟨g,0,none⟩))(hs:cs.size=n)
 (hc:∀ j v,cs[j]?=some v→w.cell? ⟨g,j,none⟩=some v) (hd:a.defers=[]) (h:R (.returned (.tuple #[a.tmps.getD q undef,.agg cs,a.tmps.getD r undef])) w):bodyPost Tryz.prog fn R .ret a w:=by
 refine bodyPost_ret (v:=.tuple #[a.tmps.getD q undef,.agg cs,a.tmps.getD r undef]) ?_ hd h
 have hp':a.tmps[p]?.getD undef= .pointer (some ⟨g,0,none⟩):=by simpa using hp
 simp[results,hr,hp',asAddr,load_cs hT hs hc]
theorem ret_c2{p:Tmp}{T n:Nat}(hT:IsRow T n)(hr:fn.results=#[.cell p T])(g:Nat)(cs:Array Value)(hp:a.tmps.getD p undef= .pointer (some ⟨g,0,none⟩))(hs:cs.size=n)
 (hc:∀ j v,cs[j]?=some v→w.cell? ⟨g,j,none⟩=some v) (hd:a.defers=[]) (h:R (.returned (.agg cs)) w):bodyPost Tryz.prog fn R .ret a w:=by
 refine bodyPost_ret (v:=.agg cs) ?_ hd h
 have hp':a.tmps[p]?.getD undef= .pointer (some ⟨g,0,none⟩):=by simpa using hp
 simp[results,hr,hp',asAddr,load_cs hT hs hc]
theorem ret_ct2{p q:Tmp}{T n:Nat}(hT:IsRow T n)(hr:fn.results=#[.cell p T,.tmp q])(g:Nat)(cs:Array Value)(hp:a.tmps.getD p undef= .pointer (some ⟨g,0,none⟩))(hs:cs.size=n)
 (hc:∀ j v,cs[j]?=some v→w.cell? ⟨g,j,none⟩=some v) (hd:a.defers=[]) (h:R (.returned (.tuple #[.agg cs,a.tmps.getD q undef])) w):bodyPost Tryz.prog fn R .ret a w:=by
 refine bodyPost_ret (v:=.tuple #[.agg cs,a.tmps.getD q undef]) ?_ hd h
 have hp':a.tmps[p]?.getD undef= .pointer (some ⟨g,0,none⟩):=by simpa using hp
 simp[results,hr,hp',asAddr,load_cs hT hs hc]
theorem rq_cells{g:Nat}{r:Rq}(c0:w.cell? ⟨g,0,none⟩=some (.int .i64 r.kind))(c1:w.cell? ⟨g,1,none⟩=some (.int .u32 r.line.v))(c2:w.cell? ⟨g,2,none⟩=some (.int .i64 r.left))(c3:w.cell? ⟨g,3,none⟩=some (.string (bs r.data))):∀ j v,(rqC r)[j]?=some v→w.cell? ⟨g,j,none⟩=some v:=by
 intro j v h
 match j with
 | 0=>exact c0.trans h
 | 1=>exact c1.trans h
 | 2=>exact c2.trans h
 | 3=>exact c3.trans h
 | j+4=>have:=(Array.getElem?_eq_some_iff.1 h).1;rw[rqC_size]at this;omega
theorem cc_cells{g:Nat}{r:Cc}(c0:w.cell? ⟨g,0,none⟩=some (.int .i64 r.ways))(c1:w.cell? ⟨g,1,none⟩=some (.slice r.sets.a r.sets.n r.sets.c)):∀ j v,(ccC r)[j]?=some v→w.cell? ⟨g,j,none⟩=some v:=by
 intro j v h
 match j with
 | 0=>exact c0.trans h
 | 1=>exact c1.trans h
 | j+2=>have:=(Array.getElem?_eq_some_iff.1 h).1;rw[ccC_size]at this;omega
theorem wy_cells{g:Nat}{r:Wy}(c0:w.cell? ⟨g,0,none⟩=some (.int .u32 r.line.v))(c1:w.cell? ⟨g,1,none⟩=some (.bool r.dirty))(c2:w.cell? ⟨g,2,none⟩=some (.string (bs r.data))):∀ j v,(wyC r)[j]?=some v→w.cell? ⟨g,j,none⟩=some v:=by
 intro j v h
 match j with
 | 0=>exact c0.trans h
 | 1=>exact c1.trans h
 | 2=>exact c2.trans h
 | j+3=>have:=(Array.getElem?_eq_some_iff.1 h).1;rw[wyC_size]at this;omega
end
section
variable {w:World} {ops:Array Oper} {o:Oper} {a:Act} {K:Act→World→Prop} {Q:Exit→Act→World→Prop} {E:Prop} {T n:Nat}
end
def RowB(w:World)(g:Nat)(m:By):Prop:=g<w.heap.size∧∀ j (h:j<m.length),w.cell? ⟨g,j,none⟩=some (.int .u8 (m[j].toNat:Int))∧w.frozen? ⟨g,j,none⟩=false
theorem RowB.below{w w':World}{g:Nat}{m:By}(h:RowB w g m)(hb:Below w.heap.size w w'):RowB w' g m:=
 ⟨Nat.lt_of_lt_of_le h.1 hb.size,fun j hj=>⟨(hb.cell (p:=⟨g,j,none⟩) h.1).trans (h.2 j hj).1,(hb.frozen (p:=⟨g,j,none⟩) h.1).trans (h.2 j hj).2⟩⟩
def bcells(s:By):List Value:=s.map fun b=>Value.int .u8 (b.toNat:Int)
theorem bcells_len(s:By):(bcells s).length=s.length:=by simp[bcells]
theorem lay_len(m:By)(a:Nat)(d:By)(h:a≤m.length):(lay m a d).length=m.length:=by
 unfold lay
 simp only[List.length_append,List.length_take,List.length_drop]
 omega
theorem lay_get(m:By)(a:Nat)(d:By)(h:a≤m.length)(j:Nat):(lay m a d)[j]?=if j<a then m[j]? else if j<a+min d.length (m.length-a)then d[j-a]? else m[j]?:=by
 unfold lay
 by_cases c1:j<a
 ·rw[if_pos c1,List.getElem?_append_left (by rw[List.length_take];omega),List.getElem?_take_of_lt c1]
 ·rw[if_neg c1,List.getElem?_append_right (by rw[List.length_take];omega),List.length_take,show min a m.length=a by omega]
  by_cases c2:j<a+min d.length (m.length-a)
  ·rw[if_pos c2,List.getElem?_append_left (by rw[List.length_take];omega),List.getElem?_take_of_lt (by omega)]
  ·rw[if_neg c2,List.getElem?_append_right (by rw[List.length_take];omega),List.getElem?_drop,List.length_take]
   by_cases c3:d.length≤m.length-a
   ·rw[show a+d.length+(j-a-min (m.length-a) d.length)=j by omega]
   ·rw[List.getElem?_eq_none (by omega),List.getElem?_eq_none (by omega)]
theorem RowB.lay{w:World}{g:Nat}{m:By}(h:RowB w g m)(a:Nat)(d:By)(ha:a≤m.length):RowB (w.setCells g a ((bcells d).take (min d.length (m.length-a)))) g (lay m a d):=by
 obtain⟨hg,hc⟩:=h
 have hl:((bcells d).take (min d.length (m.length-a))).length=min d.length (m.length-a):=by rw[List.length_take,bcells_len];omega
 refine⟨?_,fun j hj=>⟨?_,?_⟩⟩
 ·have:∀(vs:List Value) (o:Nat) (w:World),(w.setCells g o vs).heap.size=w.heap.size:=by
   intro vs
   induction vs with
   | nil=>intro o w;rfl
   | cons v vs ih=>intro o w;show((w.setCell _ _).setCells g (o+1) vs).heap.size=_;rw[ih,World.size_setCell]
  rw[this];exact hg
 ·rw[lay_len m a d ha]at hj
  have hj':j<(Go.Proofs.YtdmhfogegfmnfaaGreatDoor.lay m a d).length:=by rw[lay_len m a d ha];exact hj
  have hget:=lay_get m a d ha j
  rw[List.getElem?_eq_getElem hj']at hget
  by_cases c:a≤j∧j<a+min d.length (m.length-a)
  ·rw[if_neg (by omega),if_pos c.2]at hget
   have h1:=World.cell?_setCells_in g ((bcells d).take (min d.length (m.length-a))) a w (fun i hi=>by
    rw[hl]at hi
    rw[(hc (a+i) (by omega)).1];rfl) (j-a) (by rw[hl];omega)
   rw[show a+(j-a)=j by omega]at h1
   rw[h1]
   have hd:j-a<d.length:=by omega
   rw[List.getElem?_eq_getElem hd,Option.some.injEq]at hget
   rw[hget]
   simp[bcells]
  ·rw[World.cell?_setCells_out g _ a w ⟨g,j,none⟩ (fun _ _=>by rw[hl];show j<a∨a+_≤j;omega)]
   rw[(hc j hj).1]
   have:(if j<a then m[j]? else if j<a+min d.length (m.length-a)then d[j-a]? else m[j]?)=m[j]?:=by
    split
    ·rfl
    ·rw[if_neg (by omega)]
   rw[this,List.getElem?_eq_getElem hj,Option.some.injEq]at hget
   rw[hget]
 ·rw[World.frozen?_setCells]
  rw[lay_len m a d ha]at hj
  exact(hc j hj).2
theorem bl_cells{B b:Nat}{a w:World}(h:Below B a w)(hb:B≤b)(o:Nat)(vs:List Value):Below B a (w.setCells b o vs):=Go.below_setCells hb vs o w h
section
variable {w:World} {ops:Array Oper} {rest:List Oper} {o:Oper} {a:Act} {Q:Exit→Act→World→Prop}
theorem conv_bytes(hgd:o.guard=none)(x:Operand)(ho:o.op= .convert 9 77 x)(m:By)(hx:a.eval x= .string (bs m))
 (h:∀ C w',RowB w' w.heap.size m→m.length≤C→Below w.heap.size w w'→wpList Tryz.prog ops Q rest (a.put o.dst (.slice (some ⟨w.heap.size,0,none⟩) m.length C)) w'):wpList Tryz.prog ops Q (o::rest) a w:=by
 refine wpList_plain hgd fun K hK=>?_
 have hrun:=run_bytes_of_string (P:=Tryz.prog) w 9 77 5 (bs m) Tryz.underlying9 Tryz.underlying77 Tryz.underlying5
 unfold Oper.wp execOp
 simp only[ho,hx,Sem.run_bind,Sem.run_pure,Result.andThen_ok,hrun]
 have hs:(bs m).size=m.length:=bs_size m
 rw[hs]
 refine hK _ _ (h _ _ ⟨?_,fun j hj=>⟨?_,?_⟩⟩ ?_ ((Below.refl _ _).drew.alloc (Nat.le_refl _) _))
 ·show w.heap.size<(Array.push _ _).size;simp
 ·rw[cell_of_row _ _ j _ _ _ (show(World.alloc w.drew _).heap[w.heap.size]?=_ from heap_alloc_new w.drew _)]
  unfold bytesRow
  rw[Array.getElem?_append_left (by simp[bs,hj])]
  simp[bs,hj]
 ·unfold World.frozen?
  rw[show(World.alloc w.drew _).heap[w.heap.size]?=_ from heap_alloc_new w.drew _]
  simp only[bytesRow,Array.size_append,Array.size_map,Bool.and_eq_false_iff,decide_eq_false_iff_not]
  left
  simp[bs]
  omega
 ·exact grownCap_ge w m.length 0 5
theorem step_copy_lay{K:Act→World→Prop}{E:Prop}(hgd:o.guard=none)(d x:Operand)(ho:o.op= .call { callee:=.builtin .copy,args:=#[d,x],argTypes:=#[77,9] })
 (g at_ C:Nat) (m s:By) (hd:a.eval d= .slice (some ⟨g,at_,none⟩) (m.length-at_) C) (hx:a.eval x= .string (bs s)) (hm:RowB w g m)
 (h:K (a.put o.dst (goInt ((min s.length (m.length-at_):Nat):Int))) (w.setCells g at_ ((bcells s).take (min s.length (m.length-at_))))):if Region.wanted o (yielded ops a.tmps)=true then Oper.wp Tryz.prog o a w K Q else E:=by
 have hw:Region.wanted o (yielded ops a.tmps)=true:=by simp[Region.wanted,hgd]
 rw[if_pos hw]
 have hz:∀ w,(Go.sizeOf 5).run Tryz.prog w= .ok 1 w:=fun w=>Tryz.sizeOf5 w
 have hl:((bcells s).take (min s.length (m.length-at_))).length=min s.length (m.length-at_):=by rw[List.length_take,bcells_len];omega
 have hst:=run_storeCells_cells (P:=Tryz.prog) g at_ ((bcells s).take (min s.length (m.length-at_))) 0 w (fun j hj=>by
  rw[hl]at hj
  simp only[Nat.add_zero]
  rw[(hm.2 (at_+j) (by omega)).1];rfl) (fun j hj=>by
  rw[hl]at hj
  simp only[Nat.add_zero]
  exact(hm.2 (at_+j) (by omega)).2) (by
  intro v hv
  have:=List.mem_of_mem_take hv
  simp only[bcells,List.mem_map]at this
  obtain⟨b,_,rfl⟩:=this
  rfl)
 have hrun:(Builtin.copy_ #[77,9] o.type #[.slice (some ⟨g,at_,none⟩) (m.length-at_) C,.string (bs s)]).run Tryz.prog w= .ok (goInt ((min s.length (m.length-at_):Nat):Int)) (w.setCells g at_ ((bcells s).take (min s.length (m.length-at_)))):=by
  have e1:List.map (fun x:UInt8=>Value.int .u8 (x.toNat:Int)) (bs s).data.toList=bcells s:=by simp[bs,bcells]
  have e2:Nat.min s.length (m.length-at_)=min s.length (m.length-at_):=rfl
  simp only[Nat.add_zero]at hst
  simp[Builtin.copy_,run_underlying Tryz.underlying77,Builtin.lenOf,Builtin.firstCells,hz]
  rw[e1,e2,hst]
  simp[Result.andThen]
 unfold Oper.wp
 simp[execOp,ho,resolve,invoke,builtin,hd,hx,hrun,Result.andThen]
 exact h
end
end Go.Proofs.YtdmhfogegfmnfaaGreatDoor
