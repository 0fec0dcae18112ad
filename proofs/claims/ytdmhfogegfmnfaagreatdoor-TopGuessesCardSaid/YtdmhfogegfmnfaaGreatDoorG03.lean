/- The plain data of a core: what becomes of entries. No conditions. The plain data of a core: facts on lines and ways. No conditions. Registers as a row of 32 words. No conditions. The plain data of a core: shapes, the stages of a cycle. No conditions. A core as 64 cells; the machine's box; what lies where. No conditions. Printed by gen_k10.py. -/
import Derived.Test.YtdmhfogegfmnfaaGreatDoorG02
import Derived.ArgAppend
set_option linter.unusedVariables false
set_option linter.unusedSimpArgs false
namespace Go.Proofs.YtdmhfogegfmnfaaGreatDoor
open Go.RowKit
def lowU(x:U)(s:Int):U:=(joinS (bytesS x s).1).1
def takeE(e:En)(b:By):En:=
 if kd e.i.op≠3∨e.known=false∨(e.is≠0∧e.is≠2)then e
 else { e with is:=1,left:=1,value:=if wr e.i.op e.i.rd=0 then U.of 0 else loadM e.i.op b }
def storeE(e:En)(b:U):En:=
 if kd e.i.op≠4∨e.known=false∨e.is≠0 then e else { e with is:=3,value:=lowU b (sz e.i.op) }
def addrE(e:En)(size:Int)(a:U):En:=
 if(kd e.i.op≠3∧kd e.i.op≠4)∨e.is≠0∨e.known=true then e
 else if okAt size (addU a e.i.imm.v) (sz e.i.op)then { e with addr:=addU a e.i.imm.v,known:=true }
 else { e with addr:=addU a e.i.imm.v,halt:=if kd e.i.op=4 then 5 else 4,is:=3 }
def workE(e:En)(v n:U)(left took halt:Int):En:={ e with is:=1,value:=v,next:=n,left:=left,took:=took,halt:=halt }
def startE(e:En)(a b:U):En:=
 if e.is≠0∨kd e.i.op=3∨kd e.i.op=4 then e
 else
  let v:=if wr e.i.op e.i.rd=0 then U.of 0 else valU e.i e.pc a b
  if kd e.i.op=1 then workE e v (addU e.pc 4) 3 e.took e.halt
  else if kd e.i.op=2 then workE e v (addU e.pc 4) (tk e.i.op a.v b.v) (tk e.i.op a.v b.v) e.halt
  else if kd e.i.op=5 then
   (if tgtB e.i e.pc a b then workE e v (nxU e.i e.pc a b) 1 e.took e.halt else workE e (U.of 0) (addU e.pc 4) 1 e.took 3)
  else workE e v (addU e.pc 4) 1 e.took e.halt
def toldE(e:En):St:=
 if e.halt≠0 then⟨e.pc,e.pc,0,U.of 0,if e.halt=4∨e.halt=5 then e.addr else U.of 0,0,false,e.halt,0⟩
 else
  let rd:=wr e.i.op e.i.rd
  let v:=if rd=0 then U.of 0 else e.value
  if kd e.i.op=4 then⟨e.pc,addU e.pc 4,rd,e.value,e.addr,sz e.i.op,true,0,0⟩
  else if kd e.i.op=3 then⟨e.pc,addU e.pc 4,rd,v,e.addr,sz e.i.op,false,0,0⟩
  else if kd e.i.op=2 then⟨e.pc,addU e.pc 4,rd,v,U.of 0,0,false,0,e.took⟩
  else if kd e.i.op=5 then⟨e.pc,e.next,rd,v,U.of 0,0,false,0,0⟩
  else⟨e.pc,addU e.pc 4,rd,v,U.of 0,0,false,0,0⟩
def wrongE(e:En):Bool:=decide (kd e.i.op=5)&&e.known&&!decide (e.next=e.guess)
def wrongI:List En→Nat→Int
 | [],_=>-1
 | e::l,k=>if wrongE e then k else wrongI l (k+1)
def cutR(l:List En)(i:Nat):List En:=l.take i++[{ l.getD i ⟨0,U.of 0,⟨0,0,0,0,U.of 0⟩,U.of 0,0,0,U.of 0,U.of 0,U.of 0,0,0,false,false⟩with guess:=(l.getD i ⟨0,U.of 0,⟨0,0,0,0,U.of 0⟩,U.of 0,0,0,U.of 0,U.of 0,U.of 0,0,0,false,false⟩).next }]
def standsE(e:En):Bool:=
 if e.is<0∨3<e.is then false
 else if(e.is=1∧e.left≤0)∨(e.is≠1∧e.left≠0)then false
 else if e.is=2∧(kd e.i.op≠3∨e.known=false)then false
 else if e.halt≠0∧e.is≠3∧¬ (e.is=1∧kd e.i.op=5∧e.halt=3)then false
 else if(enc e.i).2≠0 then decide (e.halt=1∨e.halt=2)else true
def standR:List En→Bool
 | []=>true
 | e::l=>standsE e&&(match l with|[]=>true|f::_=>decide (e.no<f.no))&&standR l
def rightR(l:List En):Bool:=decide (l.length≤8)&&standR l
def newE(no:Int)(f:Fe)(prog:List U):En:=
 let w:=fetchM prog f.pc
 let d:=dec w.1
 if w.2=false then⟨no,f.pc,⟨0,0,0,0,U.of 0⟩,f.guess,3,0,U.of 0,U.of 0,U.of 0,1,0,false,false⟩
 else if d.2≠0 then⟨no,f.pc,⟨0,0,0,0,U.of 0⟩,f.guess,3,0,U.of 0,U.of 0,U.of 0,2,0,false,false⟩
 else
  let h:=if d.1.op=47 then 6 else if d.1.op=48 then 7 else 0
  ⟨no,f.pc,d.1,f.guess,if h≠0 then 3 else 0,0,U.of 0,U.of 0,U.of 0,h,0,false,false⟩
def makerR(l:List En)(reg:Int):Nat→Int
 | 0=>-1
 | k+1=>if wr (l.getD k default).i.op (l.getD k default).i.rd=reg then k else makerR l reg k
def makerE(l:List En)(i reg:Int):Int:=if reg<1∨31<reg then -1 else makerR l reg (min i l.length).toNat
def readE(l:List En)(regs:List U)(i reg:Int):U×Bool:=
 if reg=0 then(U.of 0,true)
 else if reg<0∨31<reg then(U.of 0,false)
 else
  let k:=makerE l i reg
  if k<0 then(regs.getD reg.toNat (U.of 0),true)
  else
   let e:=l.getD k.toNat default
   if e.is=3∧e.halt=0 then(e.value,true)else(U.of 0,false)
def bothE(l:List En)(regs:List U)(i:Int):U×U×Bool:=
 if i<0∨(l.length:Int)≤i then(U.of 0,U.of 0,false)
 else
  let e:=l.getD i.toNat default
  let a:=readE l regs i e.i.r1
  let b:=readE l regs i e.i.r2
  (a.1,b.1,a.2&&b.2)
def applyR(regs:List U)(s:St):List U:=if 1≤s.rd∧s.rd≤31∧s.halt=0 then regs.set s.rd.toNat s.value else regs
def storedS(s:St):Option Pt:=if s.store=false∨s.halt≠0∨(s.size≠1∧s.size≠2∧s.size≠4)then none else some ⟨s.addr,(bytesS s.value s.size).1⟩
theorem place_none{line:U}:∀(L:List Wy),(∀ y∈L,y.line≠line)→placeW L line=(0,false)
 | [],_=>rfl
 | y::L,h=>by
  unfold placeW
  rw[if_neg (h y (by simp)),place_none L (fun z hz=>h z (by simp[hz]))]
  simp
theorem place_hit{line:U}:∀(L:List Wy) (k:Nat) (y:Wy),L[k]?=some y→y.line=line→(∀ z∈L.take k,z.line≠line)→placeW L line=(k,true)
 | [],k,y,h,_,_=>by simp at h
 | z::L,0,y,h,e,_=>by
  simp only[List.getElem?_cons_zero,Option.some.injEq]at h
  subst h
  unfold placeW
  rw[if_pos e]
 | z::L,k+1,y,h,e,hn=>by
  simp only[List.getElem?_cons_succ]at h
  unfold placeW
  rw[if_neg (hn z (by simp)),place_hit L k y h e (fun u hu=>hn u (by simp[hu]))]
  simp
theorem take_more{α:Type}{p:α→Prop}{L:List α}{k:Nat}{y:α}(h:L[k]?=some y)(ht:∀ z∈L.take k,p z)(hy:p y):∀ z∈L.take (k+1),p z:=by
 intro z hz
 have hk:=(List.getElem?_eq_some_iff.1 h).1
 rw[List.take_succ_eq_append_getElem hk,List.mem_append]at hz
 rcases hz with hz|hz
 ·exact ht z hz
 ·simp at hz;rw[hz];have:=(List.getElem?_eq_some_iff.1 h).2;rw[this];exact hy
theorem take_full{α:Type}{p:α→Prop}{L:List α}{n:Nat}(hl:L.length=n)(h:∀ z∈L.take n,p z):∀ z∈L,p z:=by
 rw[List.take_of_length_le (by omega)]at h;exact h
theorem place_lt{line:U}:∀(L:List Wy) (k:Nat),placeW L line=(k,true)→k<L.length:=by
 intro L
 induction L with
 | nil=>intro k h;simp[placeW]at h
 | cons y L ih=>
  intro k h
  unfold placeW at h
  split at h
  ·simp at h;subst h;simp
  ·split at h
   ·rename_i h2
    simp at h
    have:=ih (placeW L line).1 (Prod.ext rfl h2)
    simp;omega
   ·cases h
def rgC(r:List U):Array Value:=((List.range 32).map fun j=>Value.int .u32 (r.getD j (U.of 0)).v).toArray
@[go_sem] theorem rgC_size(r:List U):(rgC r).size=32:=by simp[rgC]
theorem rgC_get(r:List U)(j:Nat):(rgC r)[j]?=if j<32 then some (.int .u32 (r.getD j (U.of 0)).v)else none:=by
 unfold rgC
 by_cases h:j<32
 ·simp[h]
 ·simp[h]
theorem rgC_ones(r:List U):Ones (rgC r):=by
 unfold Ones rgC
 rw[List.all_eq_true]
 intro v hv
 simp only[List.mem_map]at hv
 obtain⟨j,_,rfl⟩:=hv
 rfl
theorem row29:IsRow 29 32:=⟨_,Tryz.underlying29,rfl,by kernel_rfl⟩
def rgZ:List U:=[]
theorem zero29(w:World):(zeroValue 29).run Tryz.prog w= .ok (.agg (rgC rgZ)) w:=by kernel_rfl
theorem rgS(r:List U)(k:Nat)(v:U)(hk:k<r.length):(rgC r).setIfInBounds k (.int .u32 v.v)=rgC (r.set k v):=by
 apply Array.ext_getElem?
 intro j
 rw[Array.getElem?_setIfInBounds,rgC_get,rgC_get,rgC_size]
 by_cases h:k=j
 ·subst h
  rw[if_pos rfl]
  by_cases h2:k<32
  ·rw[if_pos h2,if_pos h2,List.getD_eq_getElem?_getD,List.getElem?_set_self hk]
   rfl
  ·rw[if_neg h2,if_neg h2]
 ·rw[if_neg h]
  split
  ·rw[List.getD_eq_getElem?_getD,List.getD_eq_getElem?_getD,List.getElem?_set_ne h]
  ·rfl
def cl(lo hi x:Int):Int:=if x<lo then lo else if hi<x then hi else x
theorem cl_lo{lo hi x:Int}(h:x<lo):cl lo hi x=lo:=by unfold cl;rw[if_pos h]
theorem cl_hi{lo hi x:Int}(h:lo≤x)(h':hi<x):cl lo hi x=hi:=by unfold cl;rw[if_neg (by omega),if_pos h']
theorem cl_in{lo hi x:Int}(h:lo≤x)(h':x≤hi):cl lo hi x=x:=by unfold cl;rw[if_neg (by omega),if_neg (by omega)]
def setsF(s:Int):Int:=if cl 1 4 s=3 then 2 else cl 1 4 s
def cleanF(c:Cf):Cf:=
 { mode:=cl 0 2 c.mode,width:=cl 1 2 c.width,rob:=cl 2 8 c.rob,queue:=cl 1 4 c.queue,stores:=cl 1 4 c.stores,slots:=cl 2 6 c.slots,sets:=setsF c.sets,ways:=cl 1 2 c.ways,lat:=(c.lat.take 64).map (cl 1 8),tables:=c.tables,tape:=c.tape.take 64 }
def wi(lo hi n:Int):Bool:=decide (lo≤n)&&decide (n≤hi)
def rightF(c:Cf):Bool:=
 c.lat.all (wi 1 8)&&(wi 0 2 c.mode&&wi 1 2 c.width&&wi 2 8 c.rob&&wi 1 4 c.queue&&wi 1 4 c.stores&&wi 2 6 c.slots&&wi 1 4 c.sets&&c.sets != 3&&wi 1 2 c.ways&&decide ((c.lat.length:Int)≤64)&&decide ((c.tape.length:Int)≤64))
def pl(k n:Int):Int:=if k<0 then 0 else k % n
def latF(c:Cf)(k:Int):Int:=if(cleanF c).lat.length=0 then 1 else(cleanF c).lat.getD (pl k (cleanF c).lat.length).toNat 0
def newG:Gu:=⟨List.replicate 8 ⟨U.of 0,U.of 0⟩,U.of 0,[]⟩
def rightG(g:Gu):Bool:=decide (g.slots.length=8)&&decide (g.history.v<8)&&decide (g.returns.length≤4)
def newCo(c:Cf)(prog:List U)(m:By):Co:=
 { conf:=cleanF c,prog:=prog.take 64,cycle:=0,regs:=List.replicate 32 (U.of 0),fetch:=U.of 0,stop:=false,fetched:=[],rob:=[],next:=1,stores:=[],data:=newC (cleanF c).sets (cleanF c).ways,words:=newC (cleanF c).sets (cleanF c).ways,bus:=[],asked:=0,guessed:=0,mem:=cleanM m,guess:=newG,halt:=0,retired:=[],ph:=0 }
def fitsC(c:Ca)(f:Cf):Bool:=rightC c&&decide ((c.sets.length:Int)=f.sets)&&decide (c.ways=f.ways)
def rightCo(c:Co):Bool:=
 rightF c.conf&&decide (c.prog.length≤64)&&decide (c.mem=cleanM c.mem)&&rightR c.rob&&decide ((c.rob.length:Int)≤c.conf.rob)&&c.rob.all (fun e=>decide (e.no<c.next)) &&
  fitsC c.data c.conf&&fitsC c.words c.conf&&rightG c.guess&&decide ((c.fetched.length:Int)≤c.conf.queue)&&decide ((c.stores.length:Int)≤c.conf.stores) &&
  c.stores.all (fun p=>okAt c.mem.length p.addr p.data.length)
def askC(c:Co)(kind:Int)(line:U)(data:By):Co:=
 { c with bus:=pushQ c.bus kind line (latF c.conf c.asked) data,asked:=wrap64 (c.asked+1) }
def roomC(c:Co)(first:Bool):Bool:=if first then decide ((readsQ c.bus:Int)<c.conf.slots)else decide ((readsQ c.bus:Int)<c.conf.slots-1)
def bringQ(c:Ca)(q:List Rq)(m:By)(line:U)(left:Int):Ca×List Rq×Bool:=
 if rightC c then
  if(findC c (lineU line)).2.2 then(touchC c (lineU line),q,false)
  else
   let p:=putC c (lineU line) (cutM (belowM q m) (lineU line)) false
   if p.2.2&&p.2.1.dirty&&!decide (p.2.1.data=[])then(p.1,pushQ q 4 p.2.1.line left p.2.1.data,true)else(p.1,q,false)
 else(c,q,false)
def bringC(c:Co)(line:U):Co:=
 let r:=bringQ c.data c.bus c.mem line (latF c.conf c.asked)
 { c with data:=r.1,bus:=r.2.1,asked:=if r.2.2 then wrap64 (c.asked+1)else c.asked }
def bytesE(c:Co)(e:En):By:=(readM (allM c.stores c.data c.bus c.mem) e.addr (sz e.i.op)).1
def fillE(c:Co)(line:U)(e:En):En:=if e.is=2∧lineU e.addr=line then takeE { e with filled:=true } (bytesE c { e with filled:=true })else e
def ticksC(c:Co):Co:=
 let t:=tickQ c.bus
 let c1:={ c with bus:=t.1 }
 let d:=t.2.1
 if t.2.2=false then c1
 else if d.kind=1 then { c1 with rob:=c1.rob.map (fillE c1 d.line) }
 else if d.kind=2 then { c1 with words:=(putC c1.words d.line [] false).1 }
 else if d.kind=3 then bringC c1 d.line
 else if d.kind=4 then { c1 with mem:=overM c1.mem [⟨d.line,d.data⟩] }
 else c1
def storeAt(regs:List U)(l:List En)(i:Nat):List En:=
 let e:=l.getD i default
 if kd e.i.op≠4 then l
 else
  let r:=readE l regs i e.i.r2
  if r.2 then l.set i (storeE e r.1)else l
def storesR(regs:List U)(l:List En):List En:=(List.range l.length).foldl (storeAt regs) l
def worksC(c:Co):Co:=
 if c.halt≠0 then c
 else
  let l:=storesR c.regs (c.rob.map goE)
  let i:=wrongI l 0
  if 0≤i then { c with rob:=cutR l i.toNat,fetch:=(l.getD i.toNat default).next,fetched:=[],stop:=false } else { c with rob:=l }
def retire1(g:Gu)(c:Co):Co:=
 if c.halt≠0 then c
 else match c.rob with
  | []=>c
  | e::l=>
   if e.is≠3 then c
   else
    let s:=toldE e
    if s.halt≠0 then { c with retired:=c.retired++[s],halt:=s.halt,rob:=[],fetched:=[],stop:=true }
    else if s.store=true∧c.conf.stores≤c.stores.length then c
    else
     let c1:={ c with retired:=c.retired++[s],stores:=c.stores++(storedS s).toList }
     let c2:=if kd e.i.op=3 then bringC c1 s.addr else c1
     { c2 with regs:=applyR c2.regs s,guess:=g,rob:=l }
def RetiresR(c c':Co):Prop:=∃ gs:List Gu,gs.length=c.conf.width.toNat∧c'=gs.foldl (fun c g=>retire1 g c) c
structure Sd where
 addr:U
 size:Int
 data:By
 there:Bool
def sdE(e:En):Sd:=⟨e.addr,sz e.i.op,bytesL e.value (sz e.i.op).toNat,decide (e.is=3)⟩
def sdP(p:Pt):Sd:=⟨p.addr,p.data.length,p.data,true⟩
def backS(l:List En)(s:List Pt):List Sd:=((l.filter fun e=>decide (kd e.i.op=4)).map sdE).reverse++(s.map sdP).reverse
def lapsB(a:U)(n:Int)(b:U)(m:Int):Bool:=decide (0<n∧0<m∧a.v<b.v+m∧b.v<a.v+n)
def holdsB(a:U)(n:Int)(b:U)(m:Int):Bool:=decide (0<m∧a.v≤b.v∧b.v+m≤a.v+(if n<0 then 0 else n))
def seekS(at_:U)(n:Int):List Sd→Int×By
 | []=>(2,[])
 | s::l=>
  if lapsB s.addr s.size at_ n=false then seekS at_ n l
  else if holdsB s.addr s.size at_ n=false∨s.there=false then(0,[])
  else(1,cutB s.data (at_.v-s.addr.v).toNat n.toNat)
def decideR(l:List En)(s:List Pt)(i:Nat):Int×By:=
 let e:=l.getD i default
 if kd e.i.op≠3 then(0,[])
 else if(l.take i).any (fun f=>decide (kd f.i.op=4)&&(!f.known||!decide (f.halt=0)))then(0,[])
 else seekS e.addr (sz e.i.op) (backS (l.take i) s)
def nearC(c:Co)(line:U):Bool:=(findC c.data line).2.2||c.rob.any (fun e=>e.filled&&decide (lineU e.addr=line))
def setE(c:Co)(i:Nat)(e:En):Co:={ c with rob:=c.rob.set i e }
def load1(v:Bool)(c:Co)(i:Nat):Co:=
 let e:=c.rob.getD i default
 if e.known=false then c
 else
  let d:=decideR c.rob c.stores i
  let line:=lineU e.addr
  if d.1=1 then setE c i (takeE e d.2)
  else if d.1≠2 then c
  else if nearC c line then setE c i (takeE e (bytesE c e))
  else if hasQ c.bus line 1 then setE c i { e with is:=2 }
  else if roomC c v=true∧hasQ c.bus line 3=false then setE (askC c 1 line []) i { e with is:=2 }
  else c
def start1(v:Bool)(c:Co)(i:Nat):Co:=
 let e:=c.rob.getD i default
 let b:=bothE c.rob c.regs i
 if kd e.i.op=4 then setE c i (addrE e c.mem.length b.1)
 else if kd e.i.op=3 then load1 v (setE c i (addrE e c.mem.length b.1)) i
 else setE c i (startE e b.1 b.2.1)
def canB(c:Co)(i:Nat):Bool:=
 let e:=c.rob.getD i default
 decide (e.is=0)&&(if kd e.i.op=3 then e.known||(readE c.rob c.regs i e.i.r1).2 else if kd e.i.op=4 then !e.known&&(readE c.rob c.regs i e.i.r1).2 else(bothE c.rob c.regs i).2.2)
def enter1(c:Co):Co:=
 if c.halt≠0 then c
 else match c.fetched with
  | []=>c
  | f::l=>if c.conf.rob≤c.rob.length then c else { c with rob:=c.rob++[newE c.next f c.prog],next:=wrap64 (c.next+1),fetched:=l }
def timesC(f:Co→Co):Nat→Co→Co
 | 0,c=>c
 | n+1,c=>timesC f n (f c)
def entersC(c:Co):Co:=timesC enter1 c.conf.width.toNat c
def plainW(c:Co):Bool:=let d:=dec (fetchM c.prog c.fetch).1;!decide (d.2=0)||!decide (kd d.1.op=5)
def fetch1(x':U)(gd:Int)(c:Co):Co:=
 let x:=if plainW c then addU c.fetch 4 else x'
 if c.halt≠0∨c.stop=true∨c.conf.queue≤c.fetched.length then c
 else if(fetchM c.prog c.fetch).2=false then { c with fetched:=c.fetched++[⟨c.fetch,addU c.fetch 4⟩],stop:=true }
 else if(findC c.words (lineU c.fetch)).2.2=false then
  (if hasQ c.bus (lineU c.fetch) 2=false∧roomC c false=true then askC c 2 (lineU c.fetch) []else c)
 else { c with words:=touchC c.words (lineU c.fetch),fetched:=c.fetched++[⟨c.fetch,x⟩],fetch:=x,guessed:=gd }
def FetchesR(c c':Co):Prop:=∃ gs:List (U×Int),gs.length=c.conf.width.toNat∧c'=gs.foldl (fun c g=>fetch1 g.1 g.2 c) c
def drainS(S:List Pt)(c:Ca):List Pt×Ca×Bool:=match S with
 | []=>(S,c,false)
 | p::T=>if(writeC c p.addr p.data).2 then(T,(writeC c p.addr p.data).1,true)else(S,c,false)
def drainsC(c:Co):Co:=
 let r:=drainS c.stores c.data
 let c1:={ c with stores:=r.1,data:=r.2.1 }
 let c2:=match c1.stores with
  | []=>c1
  | p::_=>if r.2.2=false∧hasQ c1.bus (lineU p.addr) 3=false∧roomC c1 true=true then askC c1 3 (lineU p.addr) []else c1
 if c2.stores≠[]∨c2.halt=0 then c2
 else
  let d:=dirtyC c2.data
  if d.2=true∧d.1.data≠[]then { askC c2 4 d.1.line d.1.data with data:=cleanC c2.data d.1.line } else c2
structure Ss where
 lat:Sv
 tape:Sv
 prog:Sv
 fetched:Sv
 rob:Sv
 stores:Sv
 data:Sv
 words:Sv
 bus:Sv
 slots:Sv
 returns:Sv
 retired:Sv
def coC(c:Co)(s:Ss):Array Value:=#[.int .i64 c.conf.mode,.int .i64 c.conf.width,.int .i64 c.conf.rob,.int .i64 c.conf.queue,.int .i64 c.conf.stores,.int .i64 c.conf.slots,.int .i64 c.conf.sets,.int .i64 c.conf.ways,.slice s.lat.a s.lat.n s.lat.c,.bool c.conf.tables,.slice s.tape.a s.tape.n s.tape.c,.slice s.prog.a s.prog.n s.prog.c,.int .i64 c.cycle,.int .u32 (c.regs.getD 0 (U.of 0)).v,.int .u32 (c.regs.getD 1 (U.of 0)).v,.int .u32 (c.regs.getD 2 (U.of 0)).v,.int .u32 (c.regs.getD 3 (U.of 0)).v,.int .u32 (c.regs.getD 4 (U.of 0)).v,.int .u32 (c.regs.getD 5 (U.of 0)).v,.int .u32 (c.regs.getD 6 (U.of 0)).v,.int .u32 (c.regs.getD 7 (U.of 0)).v,.int .u32 (c.regs.getD 8 (U.of 0)).v,.int .u32 (c.regs.getD 9 (U.of 0)).v,.int .u32 (c.regs.getD 10 (U.of 0)).v,.int .u32 (c.regs.getD 11 (U.of 0)).v,.int .u32 (c.regs.getD 12 (U.of 0)).v,.int .u32 (c.regs.getD 13 (U.of 0)).v,.int .u32 (c.regs.getD 14 (U.of 0)).v,.int .u32 (c.regs.getD 15 (U.of 0)).v,.int .u32 (c.regs.getD 16 (U.of 0)).v,.int .u32 (c.regs.getD 17 (U.of 0)).v,.int .u32 (c.regs.getD 18 (U.of 0)).v,.int .u32 (c.regs.getD 19 (U.of 0)).v,.int .u32 (c.regs.getD 20 (U.of 0)).v,.int .u32 (c.regs.getD 21 (U.of 0)).v,.int .u32 (c.regs.getD 22 (U.of 0)).v,.int .u32 (c.regs.getD 23 (U.of 0)).v,.int .u32 (c.regs.getD 24 (U.of 0)).v,.int .u32 (c.regs.getD 25 (U.of 0)).v,.int .u32 (c.regs.getD 26 (U.of 0)).v,.int .u32 (c.regs.getD 27 (U.of 0)).v,.int .u32 (c.regs.getD 28 (U.of 0)).v,.int .u32 (c.regs.getD 29 (U.of 0)).v,.int .u32 (c.regs.getD 30 (U.of 0)).v,.int .u32 (c.regs.getD 31 (U.of 0)).v,.int .u32 c.fetch.v,.bool c.stop,.slice s.fetched.a s.fetched.n s.fetched.c,.slice s.rob.a s.rob.n s.rob.c,.int .i64 c.next,.slice s.stores.a s.stores.n s.stores.c,.int .i64 c.data.ways,.slice s.data.a s.data.n s.data.c,.int .i64 c.words.ways,.slice s.words.a s.words.n s.words.c,.slice s.bus.a s.bus.n s.bus.c,.int .i64 c.asked,.int .i64 c.guessed,.string (bs c.mem),.slice s.slots.a s.slots.n s.slots.c,.int .u32 c.guess.history.v,.slice s.returns.a s.returns.n s.returns.c,.int .i64 c.halt,.slice s.retired.a s.retired.n s.retired.c]
@[go_sem] theorem coC_size(c:Co)(s:Ss):(coC c s).size=64:=(rfl)
theorem coC_ones(c:Co)(s:Ss):Ones (coC c s):=(rfl)
@[go_sem] theorem coC_0(c:Co)(s:Ss):(coC c s)[0]?=some (.int .i64 c.conf.mode):=(rfl)
@[go_sem] theorem coG_0(c:Co)(s:Ss)(h:0<(coC c s).size):(coC c s)[0]'h= .int .i64 c.conf.mode:=(rfl)
@[go_sem] theorem coC_1(c:Co)(s:Ss):(coC c s)[1]?=some (.int .i64 c.conf.width):=(rfl)
@[go_sem] theorem coG_1(c:Co)(s:Ss)(h:1<(coC c s).size):(coC c s)[1]'h= .int .i64 c.conf.width:=(rfl)
@[go_sem] theorem coC_2(c:Co)(s:Ss):(coC c s)[2]?=some (.int .i64 c.conf.rob):=(rfl)
@[go_sem] theorem coG_2(c:Co)(s:Ss)(h:2<(coC c s).size):(coC c s)[2]'h= .int .i64 c.conf.rob:=(rfl)
@[go_sem] theorem coC_3(c:Co)(s:Ss):(coC c s)[3]?=some (.int .i64 c.conf.queue):=(rfl)
@[go_sem] theorem coG_3(c:Co)(s:Ss)(h:3<(coC c s).size):(coC c s)[3]'h= .int .i64 c.conf.queue:=(rfl)
@[go_sem] theorem coC_4(c:Co)(s:Ss):(coC c s)[4]?=some (.int .i64 c.conf.stores):=(rfl)
@[go_sem] theorem coG_4(c:Co)(s:Ss)(h:4<(coC c s).size):(coC c s)[4]'h= .int .i64 c.conf.stores:=(rfl)
@[go_sem] theorem coC_5(c:Co)(s:Ss):(coC c s)[5]?=some (.int .i64 c.conf.slots):=(rfl)
@[go_sem] theorem coG_5(c:Co)(s:Ss)(h:5<(coC c s).size):(coC c s)[5]'h= .int .i64 c.conf.slots:=(rfl)
@[go_sem] theorem coC_6(c:Co)(s:Ss):(coC c s)[6]?=some (.int .i64 c.conf.sets):=(rfl)
@[go_sem] theorem coG_6(c:Co)(s:Ss)(h:6<(coC c s).size):(coC c s)[6]'h= .int .i64 c.conf.sets:=(rfl)
@[go_sem] theorem coC_7(c:Co)(s:Ss):(coC c s)[7]?=some (.int .i64 c.conf.ways):=(rfl)
@[go_sem] theorem coG_7(c:Co)(s:Ss)(h:7<(coC c s).size):(coC c s)[7]'h= .int .i64 c.conf.ways:=(rfl)
@[go_sem] theorem coC_8(c:Co)(s:Ss):(coC c s)[8]?=some (.slice s.lat.a s.lat.n s.lat.c):=(rfl)
@[go_sem] theorem coG_8(c:Co)(s:Ss)(h:8<(coC c s).size):(coC c s)[8]'h= .slice s.lat.a s.lat.n s.lat.c:=(rfl)
@[go_sem] theorem coC_9(c:Co)(s:Ss):(coC c s)[9]?=some (.bool c.conf.tables):=(rfl)
@[go_sem] theorem coG_9(c:Co)(s:Ss)(h:9<(coC c s).size):(coC c s)[9]'h= .bool c.conf.tables:=(rfl)
@[go_sem] theorem coC_10(c:Co)(s:Ss):(coC c s)[10]?=some (.slice s.tape.a s.tape.n s.tape.c):=(rfl)
@[go_sem] theorem coG_10(c:Co)(s:Ss)(h:10<(coC c s).size):(coC c s)[10]'h= .slice s.tape.a s.tape.n s.tape.c:=(rfl)
@[go_sem] theorem coC_11(c:Co)(s:Ss):(coC c s)[11]?=some (.slice s.prog.a s.prog.n s.prog.c):=(rfl)
@[go_sem] theorem coG_11(c:Co)(s:Ss)(h:11<(coC c s).size):(coC c s)[11]'h= .slice s.prog.a s.prog.n s.prog.c:=(rfl)
@[go_sem] theorem coC_12(c:Co)(s:Ss):(coC c s)[12]?=some (.int .i64 c.cycle):=(rfl)
@[go_sem] theorem coG_12(c:Co)(s:Ss)(h:12<(coC c s).size):(coC c s)[12]'h= .int .i64 c.cycle:=(rfl)
@[go_sem] theorem coC_13(c:Co)(s:Ss):(coC c s)[13]?=some (.int .u32 (c.regs.getD 0 (U.of 0)).v):=(rfl)
@[go_sem] theorem coG_13(c:Co)(s:Ss)(h:13<(coC c s).size):(coC c s)[13]'h= .int .u32 (c.regs.getD 0 (U.of 0)).v:=(rfl)
@[go_sem] theorem coC_14(c:Co)(s:Ss):(coC c s)[14]?=some (.int .u32 (c.regs.getD 1 (U.of 0)).v):=(rfl)
@[go_sem] theorem coG_14(c:Co)(s:Ss)(h:14<(coC c s).size):(coC c s)[14]'h= .int .u32 (c.regs.getD 1 (U.of 0)).v:=(rfl)
@[go_sem] theorem coC_15(c:Co)(s:Ss):(coC c s)[15]?=some (.int .u32 (c.regs.getD 2 (U.of 0)).v):=(rfl)
@[go_sem] theorem coG_15(c:Co)(s:Ss)(h:15<(coC c s).size):(coC c s)[15]'h= .int .u32 (c.regs.getD 2 (U.of 0)).v:=(rfl)
@[go_sem] theorem coC_16(c:Co)(s:Ss):(coC c s)[16]?=some (.int .u32 (c.regs.getD 3 (U.of 0)).v):=(rfl)
@[go_sem] theorem coG_16(c:Co)(s:Ss)(h:16<(coC c s).size):(coC c s)[16]'h= .int .u32 (c.regs.getD 3 (U.of 0)).v:=(rfl)
@[go_sem] theorem coC_17(c:Co)(s:Ss):(coC c s)[17]?=some (.int .u32 (c.regs.getD 4 (U.of 0)).v):=(rfl)
@[go_sem] theorem coG_17(c:Co)(s:Ss)(h:17<(coC c s).size):(coC c s)[17]'h= .int .u32 (c.regs.getD 4 (U.of 0)).v:=(rfl)
@[go_sem] theorem coC_18(c:Co)(s:Ss):(coC c s)[18]?=some (.int .u32 (c.regs.getD 5 (U.of 0)).v):=(rfl)
@[go_sem] theorem coG_18(c:Co)(s:Ss)(h:18<(coC c s).size):(coC c s)[18]'h= .int .u32 (c.regs.getD 5 (U.of 0)).v:=(rfl)
@[go_sem] theorem coC_19(c:Co)(s:Ss):(coC c s)[19]?=some (.int .u32 (c.regs.getD 6 (U.of 0)).v):=(rfl)
@[go_sem] theorem coG_19(c:Co)(s:Ss)(h:19<(coC c s).size):(coC c s)[19]'h= .int .u32 (c.regs.getD 6 (U.of 0)).v:=(rfl)
@[go_sem] theorem coC_20(c:Co)(s:Ss):(coC c s)[20]?=some (.int .u32 (c.regs.getD 7 (U.of 0)).v):=(rfl)
@[go_sem] theorem coG_20(c:Co)(s:Ss)(h:20<(coC c s).size):(coC c s)[20]'h= .int .u32 (c.regs.getD 7 (U.of 0)).v:=(rfl)
@[go_sem] theorem coC_21(c:Co)(s:Ss):(coC c s)[21]?=some (.int .u32 (c.regs.getD 8 (U.of 0)).v):=(rfl)
@[go_sem] theorem coG_21(c:Co)(s:Ss)(h:21<(coC c s).size):(coC c s)[21]'h= .int .u32 (c.regs.getD 8 (U.of 0)).v:=(rfl)
@[go_sem] theorem coC_22(c:Co)(s:Ss):(coC c s)[22]?=some (.int .u32 (c.regs.getD 9 (U.of 0)).v):=(rfl)
@[go_sem] theorem coG_22(c:Co)(s:Ss)(h:22<(coC c s).size):(coC c s)[22]'h= .int .u32 (c.regs.getD 9 (U.of 0)).v:=(rfl)
@[go_sem] theorem coC_23(c:Co)(s:Ss):(coC c s)[23]?=some (.int .u32 (c.regs.getD 10 (U.of 0)).v):=(rfl)
@[go_sem] theorem coG_23(c:Co)(s:Ss)(h:23<(coC c s).size):(coC c s)[23]'h= .int .u32 (c.regs.getD 10 (U.of 0)).v:=(rfl)
@[go_sem] theorem coC_24(c:Co)(s:Ss):(coC c s)[24]?=some (.int .u32 (c.regs.getD 11 (U.of 0)).v):=(rfl)
@[go_sem] theorem coG_24(c:Co)(s:Ss)(h:24<(coC c s).size):(coC c s)[24]'h= .int .u32 (c.regs.getD 11 (U.of 0)).v:=(rfl)
@[go_sem] theorem coC_25(c:Co)(s:Ss):(coC c s)[25]?=some (.int .u32 (c.regs.getD 12 (U.of 0)).v):=(rfl)
@[go_sem] theorem coG_25(c:Co)(s:Ss)(h:25<(coC c s).size):(coC c s)[25]'h= .int .u32 (c.regs.getD 12 (U.of 0)).v:=(rfl)
@[go_sem] theorem coC_26(c:Co)(s:Ss):(coC c s)[26]?=some (.int .u32 (c.regs.getD 13 (U.of 0)).v):=(rfl)
@[go_sem] theorem coG_26(c:Co)(s:Ss)(h:26<(coC c s).size):(coC c s)[26]'h= .int .u32 (c.regs.getD 13 (U.of 0)).v:=(rfl)
@[go_sem] theorem coC_27(c:Co)(s:Ss):(coC c s)[27]?=some (.int .u32 (c.regs.getD 14 (U.of 0)).v):=(rfl)
@[go_sem] theorem coG_27(c:Co)(s:Ss)(h:27<(coC c s).size):(coC c s)[27]'h= .int .u32 (c.regs.getD 14 (U.of 0)).v:=(rfl)
@[go_sem] theorem coC_28(c:Co)(s:Ss):(coC c s)[28]?=some (.int .u32 (c.regs.getD 15 (U.of 0)).v):=(rfl)
@[go_sem] theorem coG_28(c:Co)(s:Ss)(h:28<(coC c s).size):(coC c s)[28]'h= .int .u32 (c.regs.getD 15 (U.of 0)).v:=(rfl)
@[go_sem] theorem coC_29(c:Co)(s:Ss):(coC c s)[29]?=some (.int .u32 (c.regs.getD 16 (U.of 0)).v):=(rfl)
@[go_sem] theorem coG_29(c:Co)(s:Ss)(h:29<(coC c s).size):(coC c s)[29]'h= .int .u32 (c.regs.getD 16 (U.of 0)).v:=(rfl)
@[go_sem] theorem coC_30(c:Co)(s:Ss):(coC c s)[30]?=some (.int .u32 (c.regs.getD 17 (U.of 0)).v):=(rfl)
@[go_sem] theorem coG_30(c:Co)(s:Ss)(h:30<(coC c s).size):(coC c s)[30]'h= .int .u32 (c.regs.getD 17 (U.of 0)).v:=(rfl)
@[go_sem] theorem coC_31(c:Co)(s:Ss):(coC c s)[31]?=some (.int .u32 (c.regs.getD 18 (U.of 0)).v):=(rfl)
@[go_sem] theorem coG_31(c:Co)(s:Ss)(h:31<(coC c s).size):(coC c s)[31]'h= .int .u32 (c.regs.getD 18 (U.of 0)).v:=(rfl)
@[go_sem] theorem coC_32(c:Co)(s:Ss):(coC c s)[32]?=some (.int .u32 (c.regs.getD 19 (U.of 0)).v):=(rfl)
@[go_sem] theorem coG_32(c:Co)(s:Ss)(h:32<(coC c s).size):(coC c s)[32]'h= .int .u32 (c.regs.getD 19 (U.of 0)).v:=(rfl)
@[go_sem] theorem coC_33(c:Co)(s:Ss):(coC c s)[33]?=some (.int .u32 (c.regs.getD 20 (U.of 0)).v):=(rfl)
@[go_sem] theorem coG_33(c:Co)(s:Ss)(h:33<(coC c s).size):(coC c s)[33]'h= .int .u32 (c.regs.getD 20 (U.of 0)).v:=(rfl)
@[go_sem] theorem coC_34(c:Co)(s:Ss):(coC c s)[34]?=some (.int .u32 (c.regs.getD 21 (U.of 0)).v):=(rfl)
@[go_sem] theorem coG_34(c:Co)(s:Ss)(h:34<(coC c s).size):(coC c s)[34]'h= .int .u32 (c.regs.getD 21 (U.of 0)).v:=(rfl)
@[go_sem] theorem coC_35(c:Co)(s:Ss):(coC c s)[35]?=some (.int .u32 (c.regs.getD 22 (U.of 0)).v):=(rfl)
@[go_sem] theorem coG_35(c:Co)(s:Ss)(h:35<(coC c s).size):(coC c s)[35]'h= .int .u32 (c.regs.getD 22 (U.of 0)).v:=(rfl)
@[go_sem] theorem coC_36(c:Co)(s:Ss):(coC c s)[36]?=some (.int .u32 (c.regs.getD 23 (U.of 0)).v):=(rfl)
@[go_sem] theorem coG_36(c:Co)(s:Ss)(h:36<(coC c s).size):(coC c s)[36]'h= .int .u32 (c.regs.getD 23 (U.of 0)).v:=(rfl)
@[go_sem] theorem coC_37(c:Co)(s:Ss):(coC c s)[37]?=some (.int .u32 (c.regs.getD 24 (U.of 0)).v):=(rfl)
@[go_sem] theorem coG_37(c:Co)(s:Ss)(h:37<(coC c s).size):(coC c s)[37]'h= .int .u32 (c.regs.getD 24 (U.of 0)).v:=(rfl)
@[go_sem] theorem coC_38(c:Co)(s:Ss):(coC c s)[38]?=some (.int .u32 (c.regs.getD 25 (U.of 0)).v):=(rfl)
@[go_sem] theorem coG_38(c:Co)(s:Ss)(h:38<(coC c s).size):(coC c s)[38]'h= .int .u32 (c.regs.getD 25 (U.of 0)).v:=(rfl)
@[go_sem] theorem coC_39(c:Co)(s:Ss):(coC c s)[39]?=some (.int .u32 (c.regs.getD 26 (U.of 0)).v):=(rfl)
@[go_sem] theorem coG_39(c:Co)(s:Ss)(h:39<(coC c s).size):(coC c s)[39]'h= .int .u32 (c.regs.getD 26 (U.of 0)).v:=(rfl)
@[go_sem] theorem coC_40(c:Co)(s:Ss):(coC c s)[40]?=some (.int .u32 (c.regs.getD 27 (U.of 0)).v):=(rfl)
@[go_sem] theorem coG_40(c:Co)(s:Ss)(h:40<(coC c s).size):(coC c s)[40]'h= .int .u32 (c.regs.getD 27 (U.of 0)).v:=(rfl)
@[go_sem] theorem coC_41(c:Co)(s:Ss):(coC c s)[41]?=some (.int .u32 (c.regs.getD 28 (U.of 0)).v):=(rfl)
@[go_sem] theorem coG_41(c:Co)(s:Ss)(h:41<(coC c s).size):(coC c s)[41]'h= .int .u32 (c.regs.getD 28 (U.of 0)).v:=(rfl)
@[go_sem] theorem coC_42(c:Co)(s:Ss):(coC c s)[42]?=some (.int .u32 (c.regs.getD 29 (U.of 0)).v):=(rfl)
@[go_sem] theorem coG_42(c:Co)(s:Ss)(h:42<(coC c s).size):(coC c s)[42]'h= .int .u32 (c.regs.getD 29 (U.of 0)).v:=(rfl)
@[go_sem] theorem coC_43(c:Co)(s:Ss):(coC c s)[43]?=some (.int .u32 (c.regs.getD 30 (U.of 0)).v):=(rfl)
@[go_sem] theorem coG_43(c:Co)(s:Ss)(h:43<(coC c s).size):(coC c s)[43]'h= .int .u32 (c.regs.getD 30 (U.of 0)).v:=(rfl)
@[go_sem] theorem coC_44(c:Co)(s:Ss):(coC c s)[44]?=some (.int .u32 (c.regs.getD 31 (U.of 0)).v):=(rfl)
@[go_sem] theorem coG_44(c:Co)(s:Ss)(h:44<(coC c s).size):(coC c s)[44]'h= .int .u32 (c.regs.getD 31 (U.of 0)).v:=(rfl)
@[go_sem] theorem coC_45(c:Co)(s:Ss):(coC c s)[45]?=some (.int .u32 c.fetch.v):=(rfl)
@[go_sem] theorem coG_45(c:Co)(s:Ss)(h:45<(coC c s).size):(coC c s)[45]'h= .int .u32 c.fetch.v:=(rfl)
@[go_sem] theorem coC_46(c:Co)(s:Ss):(coC c s)[46]?=some (.bool c.stop):=(rfl)
@[go_sem] theorem coG_46(c:Co)(s:Ss)(h:46<(coC c s).size):(coC c s)[46]'h= .bool c.stop:=(rfl)
@[go_sem] theorem coC_47(c:Co)(s:Ss):(coC c s)[47]?=some (.slice s.fetched.a s.fetched.n s.fetched.c):=(rfl)
@[go_sem] theorem coG_47(c:Co)(s:Ss)(h:47<(coC c s).size):(coC c s)[47]'h= .slice s.fetched.a s.fetched.n s.fetched.c:=(rfl)
@[go_sem] theorem coC_48(c:Co)(s:Ss):(coC c s)[48]?=some (.slice s.rob.a s.rob.n s.rob.c):=(rfl)
@[go_sem] theorem coG_48(c:Co)(s:Ss)(h:48<(coC c s).size):(coC c s)[48]'h= .slice s.rob.a s.rob.n s.rob.c:=(rfl)
@[go_sem] theorem coC_49(c:Co)(s:Ss):(coC c s)[49]?=some (.int .i64 c.next):=(rfl)
@[go_sem] theorem coG_49(c:Co)(s:Ss)(h:49<(coC c s).size):(coC c s)[49]'h= .int .i64 c.next:=(rfl)
@[go_sem] theorem coC_50(c:Co)(s:Ss):(coC c s)[50]?=some (.slice s.stores.a s.stores.n s.stores.c):=(rfl)
@[go_sem] theorem coG_50(c:Co)(s:Ss)(h:50<(coC c s).size):(coC c s)[50]'h= .slice s.stores.a s.stores.n s.stores.c:=(rfl)
@[go_sem] theorem coC_51(c:Co)(s:Ss):(coC c s)[51]?=some (.int .i64 c.data.ways):=(rfl)
@[go_sem] theorem coG_51(c:Co)(s:Ss)(h:51<(coC c s).size):(coC c s)[51]'h= .int .i64 c.data.ways:=(rfl)
@[go_sem] theorem coC_52(c:Co)(s:Ss):(coC c s)[52]?=some (.slice s.data.a s.data.n s.data.c):=(rfl)
@[go_sem] theorem coG_52(c:Co)(s:Ss)(h:52<(coC c s).size):(coC c s)[52]'h= .slice s.data.a s.data.n s.data.c:=(rfl)
@[go_sem] theorem coC_53(c:Co)(s:Ss):(coC c s)[53]?=some (.int .i64 c.words.ways):=(rfl)
@[go_sem] theorem coG_53(c:Co)(s:Ss)(h:53<(coC c s).size):(coC c s)[53]'h= .int .i64 c.words.ways:=(rfl)
@[go_sem] theorem coC_54(c:Co)(s:Ss):(coC c s)[54]?=some (.slice s.words.a s.words.n s.words.c):=(rfl)
@[go_sem] theorem coG_54(c:Co)(s:Ss)(h:54<(coC c s).size):(coC c s)[54]'h= .slice s.words.a s.words.n s.words.c:=(rfl)
@[go_sem] theorem coC_55(c:Co)(s:Ss):(coC c s)[55]?=some (.slice s.bus.a s.bus.n s.bus.c):=(rfl)
@[go_sem] theorem coG_55(c:Co)(s:Ss)(h:55<(coC c s).size):(coC c s)[55]'h= .slice s.bus.a s.bus.n s.bus.c:=(rfl)
@[go_sem] theorem coC_56(c:Co)(s:Ss):(coC c s)[56]?=some (.int .i64 c.asked):=(rfl)
@[go_sem] theorem coG_56(c:Co)(s:Ss)(h:56<(coC c s).size):(coC c s)[56]'h= .int .i64 c.asked:=(rfl)
@[go_sem] theorem coC_57(c:Co)(s:Ss):(coC c s)[57]?=some (.int .i64 c.guessed):=(rfl)
@[go_sem] theorem coG_57(c:Co)(s:Ss)(h:57<(coC c s).size):(coC c s)[57]'h= .int .i64 c.guessed:=(rfl)
@[go_sem] theorem coC_58(c:Co)(s:Ss):(coC c s)[58]?=some (.string (bs c.mem)):=(rfl)
@[go_sem] theorem coG_58(c:Co)(s:Ss)(h:58<(coC c s).size):(coC c s)[58]'h= .string (bs c.mem):=(rfl)
@[go_sem] theorem coC_59(c:Co)(s:Ss):(coC c s)[59]?=some (.slice s.slots.a s.slots.n s.slots.c):=(rfl)
@[go_sem] theorem coG_59(c:Co)(s:Ss)(h:59<(coC c s).size):(coC c s)[59]'h= .slice s.slots.a s.slots.n s.slots.c:=(rfl)
@[go_sem] theorem coC_60(c:Co)(s:Ss):(coC c s)[60]?=some (.int .u32 c.guess.history.v):=(rfl)
@[go_sem] theorem coG_60(c:Co)(s:Ss)(h:60<(coC c s).size):(coC c s)[60]'h= .int .u32 c.guess.history.v:=(rfl)
@[go_sem] theorem coC_61(c:Co)(s:Ss):(coC c s)[61]?=some (.slice s.returns.a s.returns.n s.returns.c):=(rfl)
@[go_sem] theorem coG_61(c:Co)(s:Ss)(h:61<(coC c s).size):(coC c s)[61]'h= .slice s.returns.a s.returns.n s.returns.c:=(rfl)
@[go_sem] theorem coC_62(c:Co)(s:Ss):(coC c s)[62]?=some (.int .i64 c.halt):=(rfl)
@[go_sem] theorem coG_62(c:Co)(s:Ss)(h:62<(coC c s).size):(coC c s)[62]'h= .int .i64 c.halt:=(rfl)
@[go_sem] theorem coC_63(c:Co)(s:Ss):(coC c s)[63]?=some (.slice s.retired.a s.retired.n s.retired.c):=(rfl)
@[go_sem] theorem coG_63(c:Co)(s:Ss)(h:63<(coC c s).size):(coC c s)[63]'h= .slice s.retired.a s.retired.n s.retired.c:=(rfl)
def putA(old:Array Value)(k:Nat)(new:Array Value):Array Value:=(old.toList.take k++new.toList++old.toList.drop (k+new.size)).toArray
section
variable (c:Co) (s:Ss)
theorem coU_cycle(x:Int):putA (coC c s) 12 #[.int .i64 x]=coC { c with cycle:=x } s:=(rfl)
theorem coU_fetch(x:U):putA (coC c s) 45 #[.int .u32 x.v]=coC { c with fetch:=x } s:=(rfl)
theorem coU_stop(x:Bool):putA (coC c s) 46 #[.bool x]=coC { c with stop:=x } s:=(rfl)
theorem coU_next(x:Int):putA (coC c s) 49 #[.int .i64 x]=coC { c with next:=x } s:=(rfl)
theorem coU_asked(x:Int):putA (coC c s) 56 #[.int .i64 x]=coC { c with asked:=x } s:=(rfl)
theorem coU_guessed(x:Int):putA (coC c s) 57 #[.int .i64 x]=coC { c with guessed:=x } s:=(rfl)
theorem coU_mem(x:By):putA (coC c s) 58 #[.string (bs x)]=coC { c with mem:=x } s:=(rfl)
theorem coU_halt(x:Int):putA (coC c s) 62 #[.int .i64 x]=coC { c with halt:=x } s:=(rfl)
theorem coU_fetched(L:List Fe)(A:Option Addr)(n C:Nat):putA (coC c s) 47 #[.slice A n C]=coC { c with fetched:=L } { s with fetched:=⟨A,n,C⟩ }:=(rfl)
theorem coU_rob(L:List En)(A:Option Addr)(n C:Nat):putA (coC c s) 48 #[.slice A n C]=coC { c with rob:=L } { s with rob:=⟨A,n,C⟩ }:=(rfl)
theorem coU_stores(L:List Pt)(A:Option Addr)(n C:Nat):putA (coC c s) 50 #[.slice A n C]=coC { c with stores:=L } { s with stores:=⟨A,n,C⟩ }:=(rfl)
theorem coU_bus(L:List Rq)(A:Option Addr)(n C:Nat):putA (coC c s) 55 #[.slice A n C]=coC { c with bus:=L } { s with bus:=⟨A,n,C⟩ }:=(rfl)
theorem coU_retired(L:List St)(A:Option Addr)(n C:Nat):putA (coC c s) 63 #[.slice A n C]=coC { c with retired:=L } { s with retired:=⟨A,n,C⟩ }:=(rfl)
theorem coU_data(x:Ca)(A:Option Addr)(n C:Nat):putA (coC c s) 51 #[.int .i64 x.ways,.slice A n C]=coC { c with data:=x } { s with data:=⟨A,n,C⟩ }:=(rfl)
theorem coU_words(x:Ca)(A:Option Addr)(n C:Nat):putA (coC c s) 53 #[.int .i64 x.ways,.slice A n C]=coC { c with words:=x } { s with words:=⟨A,n,C⟩ }:=(rfl)
theorem coU_guess(x:Gu)(A B:Option Addr)(n C m D:Nat):putA (coC c s) 59 #[.slice A n C,.int .u32 x.history.v,.slice B m D]=coC { c with guess:=x } { s with slots:=⟨A,n,C⟩,returns:=⟨B,m,D⟩ }:=(rfl)
theorem coU_regs(r:List U):putA (coC c s) 13 (rgC r)=coC { c with regs:=r } s:=(rfl)
end
structure Rd{α:Type}(X:Nat→Prop)(lay:α→Array Value)(k:Nat)(w:World)(s:Sv)(L:List α):Prop where
 sl:Sl lay k w s.a s.n L
 wf:Wf s.a s.n s.c
 av:Av X s.a s.n
theorem Rd.below{α:Type}{X:Nat→Prop}{lay:α→Array Value}{k:Nat}{w w':World}{s:Sv}{L:List α}(h:Rd X lay k w s L)(hb:Below w.heap.size w w'):Rd X lay k w' s L:=⟨h.sl.below hb,h.wf,h.av⟩
theorem Rd.same{α:Type}{X:Nat→Prop}{lay:α→Array Value}{k:Nat}{w w':World}{s:Sv}{L:List α}(h:Rd X lay k w s L)(hz:w.heap.size≤w'.heap.size)(hs:∀ j,X j→w'.heap[j]?=w.heap[j]?):Rd X lay k w' s L:=⟨h.sl.sameX h.av hz hs,h.wf,h.av⟩
theorem Rd.mono{α:Type}{X Y:Nat→Prop}{lay:α→Array Value}{k:Nat}{w:World}{s:Sv}{L:List α}(h:Rd X lay k w s L)(hXY:∀ j,X j→j<w.heap.size→Y j):Rd Y lay k w s L:=
 ⟨h.sl,h.wf,fun hn p hp=>by
  obtain⟨g,off,e,hg,_⟩:=h.sl.2.2 hn
  rw[e]at hp;cases hp
  exact hXY _ (h.av hn _ e) hg⟩
structure CoR(X:Nat→Prop)(w:World)(c:Co)(s:Ss):Prop where
 regs:c.regs.length=32
 lat:Rd X i64C 1 w s.lat c.conf.lat
 tape:Rd X u32C 1 w s.tape c.conf.tape
 prog:Rd X u32C 1 w s.prog c.prog
 fetched:Rd X feC 2 w s.fetched c.fetched
 rob:Rd X enC 17 w s.rob c.rob
 stores:Rd X ptC 2 w s.stores c.stores
 data:CaX X w s.data c.data
 words:CaX X w s.words c.words
 bus:Rd X rqC 4 w s.bus c.bus
 slots:Rd X skC 2 w s.slots c.guess.slots
 returns:Rd X u32C 1 w s.returns c.guess.returns
 retired:Rd X stC 9 w s.retired c.retired
theorem CoR.below{X:Nat→Prop}{w w':World}{c:Co}{s:Ss}(h:CoR X w c s)(hb:Below w.heap.size w w'):CoR X w' c s:=
 ⟨h.regs,h.lat.below hb,h.tape.below hb,h.prog.below hb,h.fetched.below hb,h.rob.below hb,h.stores.below hb,h.data.below hb,h.words.below hb,h.bus.below hb,h.slots.below hb,h.returns.below hb,h.retired.below hb⟩
theorem CoR.same{X:Nat→Prop}{w w':World}{c:Co}{s:Ss}(h:CoR X w c s)(hz:w.heap.size≤w'.heap.size)(hs:∀ j,X j→w'.heap[j]?=w.heap[j]?):CoR X w' c s:=
 ⟨h.regs,h.lat.same hz hs,h.tape.same hz hs,h.prog.same hz hs,h.fetched.same hz hs,h.rob.same hz hs,h.stores.same hz hs,h.data.same hz hs,h.words.same hz hs,h.bus.same hz hs,h.slots.same hz hs,h.returns.same hz hs,h.retired.same hz hs⟩
theorem CoR.mono{X Y:Nat→Prop}{w:World}{c:Co}{s:Ss}(h:CoR X w c s)(q:∀ j,X j→j<w.heap.size→Y j):CoR Y w c s:=
 ⟨h.regs,h.lat.mono q,h.tape.mono q,h.prog.mono q,h.fetched.mono q,h.rob.mono q,h.stores.mono q,h.data.mono q,h.words.mono q,h.bus.mono q,h.slots.mono q,h.returns.mono q,h.retired.mono q⟩
structure Off(g:Nat)(w w':World):Prop where
 os:w'.os=w.os
 tape:w'.tape=w.tape
 output:w'.output=w.output
 size:w'.heap.size=w.heap.size
 heap:∀ j,j≠g→w'.heap[j]?=w.heap[j]?
theorem Off.row{g:Nat}{w:World}(cs:Array Value):Off g w (w.setRow g cs):=⟨rfl,rfl,rfl,by simp[World.setRow],fun j h=>row_other w _ j _ h⟩
theorem Off.below{B g:Nat}{w0 w w':World}(h:Off g w w')(hb:Below B w0 w)(hg:B≤g):Below B w0 w':=
 ⟨h.os.trans hb.os,h.tape.trans hb.tape,h.output.trans hb.output,by rw[h.size];exact hb.size,fun j hj=>(h.heap j (by omega)).trans (hb.block j hj)⟩
structure Rw{α:Type}(κ:Nat→Nat)(col:Nat)(lay:α→Array Value)(k:Nat)(e:TypeId)(w:World)(s:Sv)(L:List α):Prop where
 sl:Sl lay k w s.a s.n L
 wf:Wf s.a s.n s.c
 own:0<s.n→∃ r off cur,s.a=some ⟨r,off,none⟩∧κ r=col∧w.heap[r]?=some (.cells cur e (0,0))∧off+s.n*k≤cur.size
structure Ap{α:Type}(κ:Nat→Nat)(col:Nat)(lay:α→Array Value)(k:Nat)(e:TypeId)(B:Nat)(w:World)(s:Sv)(L:List α):Prop where
 sl:Sl lay k w s.a s.n L
 wf:Wf s.a s.n s.c
 how:(Av (fun j=>κ j=0) s.a s.n∧s.n=s.c)∨(Ow lay k w B e (.slice s.a s.n s.c) L∧∀ p,s.a=some p→κ p.block=col)
structure Fet(p:Nat)(κ:Nat→Nat)(B:Nat)(w:World)(s:Sv)(L:List Fe):Prop where
 ap:Ap κ 3 feC 2 94 B w s L
 full:p=0→Av (fun j=>κ j=0) s.a s.n∧s.n=s.c
structure Sto(p:Nat)(κ:Nat→Nat)(B:Nat)(w:World)(s:Sv)(L:List Pt):Prop where
 sl:Sl ptC 2 w s.a s.n L
 wf:Wf s.a s.n s.c
 av:Av (fun j=>κ j=0∨κ j=4) s.a s.n
 ap:p≤1→Ap κ 4 ptC 2 89 B w s L
structure MR(w0 w:World)(g:Nat)(κ:Nat→Nat)(c:Co)(s:Ss):Prop where
 bl:Below w0.heap.size w0 w
 gcol:κ g=1
 g1:∀ j,κ j=1→j=g
 new:∀ j,κ j≠0→w0.heap.size≤j∧j<w.heap.size
 regs:c.regs.length=32
 lat:Rd (fun j=>κ j=0) i64C 1 w s.lat c.conf.lat
 tape:Rd (fun j=>κ j=0) u32C 1 w s.tape c.conf.tape
 prog:Rd (fun j=>κ j=0) u32C 1 w s.prog c.prog
 fetched:Fet c.ph κ w0.heap.size w s.fetched c.fetched
 rob:Rw κ 2 enC 17 85 w s.rob c.rob
 stores:Sto c.ph κ w0.heap.size w s.stores c.stores
 data:CaX (fun j=>κ j=0) w s.data c.data
 words:CaX (fun j=>κ j=0) w s.words c.words
 bus:Rd (fun j=>κ j=0) rqC 4 w s.bus c.bus
 slots:Rd (fun j=>κ j=0) skC 2 w s.slots c.guess.slots
 returns:Rd (fun j=>κ j=0) u32C 1 w s.returns c.guess.returns
 retired:Ap κ 5 stC 9 58 w0.heap.size w s.retired c.retired
structure MS(w0 w:World)(g:Nat)(κ:Nat→Nat)(c:Co)(s:Ss):Prop where
 r:MR w0 w g κ c s
 box:w.heap[g]?=some (.cells (coC c s) 67 (0,0))
structure Kp(κ:Nat→Nat)(w w':World):Prop where
 size:w.heap.size≤w'.heap.size
 heap:∀ j,j<w.heap.size→(κ j=0∨6≤κ j)→w'.heap[j]?=w.heap[j]?
theorem Kp.refl(κ:Nat→Nat)(w:World):Kp κ w w:=⟨Nat.le_refl _,fun _ _ _=>rfl⟩
theorem Kp.trans{κ:Nat→Nat}{w w1 w2:World}(h:Kp κ w w1)(h2:Kp κ w1 w2):Kp κ w w2:=⟨Nat.le_trans h.size h2.size,fun j hj hk=>(h2.heap j (Nat.lt_of_lt_of_le hj h.size) hk).trans (h.heap j hj hk)⟩
theorem Kp.of{κ:Nat→Nat}{w w':World}(h:Below w.heap.size w w'):Kp κ w w':=⟨h.size,fun j hj _=>h.block j hj⟩
theorem Kp.off{κ:Nat→Nat}{g:Nat}{w w':World}(h:Off g w w')(hg:κ g=1):Kp κ w w':=⟨by rw[h.size];exact Nat.le_refl _,fun j _ hk=>h.heap j (fun e=>by subst e;omega)⟩
section
variable {α:Type} {κ:Nat→Nat} {col k B:Nat} {lay:α→Array Value} {e:TypeId} {w w':World} {s:Sv} {L:List α}
theorem Rw.below(h:Rw κ col lay k e w s L)(hb:Below w.heap.size w w'):Rw κ col lay k e w' s L:=
 ⟨h.sl.below hb,h.wf,fun hn=>by
  obtain⟨r,off,cur,h1,h2,h3,h4⟩:=h.own hn
  exact⟨r,off,cur,h1,h2,(hb.block r (Array.getElem?_eq_some_iff.1 h3).1).trans h3,h4⟩⟩
theorem Rw.av(h:Rw κ col lay k e w s L):Av (fun j=>κ j=col) s.a s.n:=fun hn p hp=>by
 obtain⟨r,off,cur,h1,h2,_⟩:=h.own hn
 rw[hp]at h1;cases h1;exact h2
theorem Rw.off{g:Nat}(h:Rw κ col lay k e w s L)(ho:Off g w w')(hg:κ g≠col):Rw κ col lay k e w' s L:=by
 refine⟨h.sl.sameX h.av (by rw[ho.size];exact Nat.le_refl _) (fun j hj=>ho.heap j (fun e=>hg (by rw[← e];exact hj))),h.wf,fun hn=>?_⟩
 obtain⟨r,off,cur,h1,h2,h3,h4⟩:=h.own hn
 exact⟨r,off,cur,h1,h2,(ho.heap r (fun e=>hg (by rw[← e];exact h2))).trans h3,h4⟩
theorem Rd.off{g:Nat}(h:Rd (fun j=>κ j=0) lay k w s L)(ho:Off g w w')(hg:κ g≠0):Rd (fun j=>κ j=0) lay k w' s L:=
 h.same (by rw[ho.size];exact Nat.le_refl _) (fun j hj=>ho.heap j (fun e=>hg (by rw[← e];exact hj)))
theorem caOff{g:Nat}{c:Ca}(h:CaX (fun j=>κ j=0) w s c)(ho:Off g w w')(hg:κ g≠0):CaX (fun j=>κ j=0) w' s c:=
 h.same (by rw[ho.size];exact Nat.le_refl _) (fun j hj=>ho.heap j (fun e=>hg (by rw[← e];exact hj)))
theorem Ap.below(h:Ap κ col lay k e B w s L)(hb:Below w.heap.size w w'):Ap κ col lay k e B w' s L:=
 ⟨h.sl.below hb,h.wf,h.how.imp id fun⟨q,r⟩=>⟨q.below hb,r⟩⟩
theorem Ap.off{g:Nat}(h:Ap κ col lay k e B w s L)(ho:Off g w w')(hg:κ g≠0)(hc:κ g≠col)(hk:∀ x,(lay x).size=k):Ap κ col lay k e B w' s L:=by
 rcases h.how with⟨h1,h2⟩|⟨h1,h2⟩
 ·exact⟨h.sl.sameX h1 (by rw[ho.size];exact Nat.le_refl _) (fun j hj=>ho.heap j (fun e=>hg (by rw[← e];exact hj))),h.wf,.inl ⟨h1,h2⟩⟩
 ·have h3:Ow lay k w' B e (.slice s.a s.n s.c) L:=h1.same fun b hb=>ho.heap b (fun q=>by
   subst q
   cases ha:s.a with
   | none=>rw[ha]at hb;cases hb
   | some p=>rw[ha]at hb;simp[Value.ownBlock]at hb;exact hc (by rw[← hb];exact h2 p ha))
  exact⟨(h3.slv hk).1,h.wf,.inr ⟨h3,h2⟩⟩
theorem Ap.av(h:Ap κ col lay k e B w s L):Av (fun j=>κ j=0∨κ j=col) s.a s.n:=fun hn p hp=>by
 rcases h.how with⟨h1,_⟩|⟨_,h2⟩
 ·exact .inl (h1 hn p hp)
 ·exact .inr (h2 p hp)
end
section
variable {p B:Nat} {κ:Nat→Nat} {w w':World} {s:Sv} {g:Nat}
theorem Fet.sl{L:List Fe}(h:Fet p κ B w s L):Sl feC 2 w s.a s.n L:=h.ap.sl
theorem Fet.wf{L:List Fe}(h:Fet p κ B w s L):Wf s.a s.n s.c:=h.ap.wf
theorem Fet.below{L:List Fe}(h:Fet p κ B w s L)(hb:Below w.heap.size w w'):Fet p κ B w' s L:=⟨h.ap.below hb,h.full⟩
theorem Fet.off{L:List Fe}(h:Fet p κ B w s L)(ho:Off g w w')(hg:κ g≠0)(hc:κ g≠3)(hk:∀ x,(feC x).size=2):Fet p κ B w' s L:=⟨h.ap.off ho hg hc hk,h.full⟩
theorem Sto.below{L:List Pt}(h:Sto p κ B w s L)(hb:Below w.heap.size w w'):Sto p κ B w' s L:=⟨h.sl.below hb,h.wf,h.av,fun q=>(h.ap q).below hb⟩
theorem Sto.off{L:List Pt}(h:Sto p κ B w s L)(ho:Off g w w')(hg:κ g≠0)(hc:κ g≠4)(hk:∀ x,(ptC x).size=2):Sto p κ B w' s L:=
 ⟨h.sl.sameX h.av (by rw[ho.size];exact Nat.le_refl _) (fun j hj=>ho.heap j (fun e=>hj.elim (fun q=>hg (e▸q)) (fun q=>hc (e▸q)))),h.wf,h.av,fun q=>(h.ap q).off ho hg hc hk⟩
theorem Ap.sto{L:List Pt}(h:Ap κ 4 ptC 2 89 B w s L):Sto p κ B w s L:=⟨h.sl,h.wf,h.av,fun _=>h⟩
end
section
variable {w0 w w':World} {g:Nat} {κ:Nat→Nat} {c:Co} {s:Ss}
theorem MR.gB(h:MR w0 w g κ c s):w0.heap.size≤g∧g<w.heap.size:=h.new g (by rw[h.gcol];decide)
theorem MR.below(h:MR w0 w g κ c s)(hb:Below w.heap.size w w'):MR w0 w' g κ c s:=
 ⟨h.bl.trans (hb.mono h.bl.size),h.gcol,h.g1,fun j hj=>⟨(h.new j hj).1,Nat.lt_of_lt_of_le (h.new j hj).2 hb.size⟩,h.regs,h.lat.below hb,h.tape.below hb,h.prog.below hb,h.fetched.below hb,h.rob.below hb,h.stores.below hb,h.data.below hb,h.words.below hb,h.bus.below hb,h.slots.below hb,h.returns.below hb,h.retired.below hb⟩
theorem MS.below(h:MS w0 w g κ c s)(hb:Below w.heap.size w w'):MS w0 w' g κ c s:=⟨h.r.below hb,(hb.block g h.r.gB.2).trans h.box⟩
theorem MR.off(h:MR w0 w g κ c s)(ho:Off g w w'):MR w0 w' g κ c s:=by
 have q0:κ g≠0:=by rw[h.gcol];decide
 have q2:κ g≠2:=by rw[h.gcol];decide
 have q3:κ g≠3:=by rw[h.gcol];decide
 have q4:κ g≠4:=by rw[h.gcol];decide
 have q5:κ g≠5:=by rw[h.gcol];decide
 exact⟨ho.below h.bl h.gB.1,h.gcol,h.g1,fun j hj=>by rw[ho.size];exact h.new j hj,h.regs,h.lat.off ho q0,h.tape.off ho q0,h.prog.off ho q0,h.fetched.off ho q0 q3 feC_size,h.rob.off ho q2,h.stores.off ho q0 q4 ptC_size,caOff h.data ho q0,caOff h.words ho q0,h.bus.off ho q0,h.slots.off ho q0,h.returns.off ho q0,h.retired.off ho q0 q5 stC_size⟩
theorem MS.cells(h:MS w0 w g κ c s):∀ j,w.cell? ⟨g,j,none⟩=(coC c s)[j]?:=fun j=>cell_of_row w g j _ _ _ h.box
end
theorem putA_get(old:Array Value)(k:Nat)(new:Array Value)(h:k+new.size≤old.size)(m:Nat):(putA old k new)[m]?=if m<k then old[m]? else if m<k+new.size then new[m-k]? else old[m]?:=by
 unfold putA
 simp only[List.getElem?_toArray]
 by_cases c1:m<k
 ·rw[if_pos c1,List.append_assoc,List.getElem?_append_left (by simp;omega),List.getElem?_take_of_lt c1];simp
 ·rw[if_neg c1,List.append_assoc,List.getElem?_append_right (by simp;omega)]
  have e1:(old.toList.take k).length=k:=by simp;omega
  rw[e1]
  by_cases c2:m<k+new.size
  ·rw[if_pos c2,List.getElem?_append_left (by simp;omega)];simp
  ·rw[if_neg c2,List.getElem?_append_right (by simp;omega),List.getElem?_drop]
   simp only[Array.length_toList,Array.getElem?_toList]
   rw[show k+new.size+(m-k-new.size)=m by omega]
theorem putA_size(old:Array Value)(k:Nat)(new:Array Value)(h:k+new.size≤old.size):(putA old k new).size=old.size:=by
 unfold putA;simp;omega
def Cel(T n:Nat):Prop:=(Tryz.prog.info? T).map (·.size)=some n
theorem run_put{T n:Nat}(hT:Cel T n)(w:World)(g off:Nat)(t:TypeId)(old:Array Value)(v:Value)(hv:v.cells.size=n)(h1:Ones v.cells)(hg:w.heap[g]?=some (.cells old t (0,0)))(h2:off+n≤old.size):
 (storeVar T ⟨g,off,none⟩ v).run Tryz.prog w= .ok () (w.setRow g (putA old off v.cells)):=by
 have hst:=run_storeCells_at (P:=Tryz.prog) g off t v.cells.toList 0 old w hg (by simp;omega) h1.mem
 unfold Cel at hT
 cases hq:Tryz.prog.info? T with
 | none=>simp[hq]at hT
 | some i=>
  have hs:v.cells.size=i.size:=by rw[hv];simpa [hq] using hT.symm
  simp only[storeVar,sizeOf,typeInfo,Sem.run_bind]
  simp[hq,hs]
  have e:putA old off v.cells=(old.toList.take (off+0)++v.cells.toList++old.toList.drop (off+0+v.cells.toList.length)).toArray:=by simp[putA]
  rw[e]
  simpa [hs] using hst
section
variable {w0 w:World} {g:Nat} {κ:Nat→Nat} {c c':Co} {s s':Ss} {ops:Array Oper} {rest:List Oper} {o:Oper} {a:Act} {Q:Exit→Act→World→Prop} {K:Act→World→Prop} {E:Prop} {T n:Nat}
theorem wp_put(hT:Cel T n)(x y:Operand)(ho:o.op= .store T x y)(g off:Nat)(hx:a.eval x= .pointer (some ⟨g,off,none⟩))(v:Value)(hy:a.eval y=v)(hv:v.cells.size=n)(h1:Ones v.cells)(t:TypeId)(old:Array Value)(hg:w.heap[g]?=some (.cells old t (0,0)))(h2:off+n≤old.size)
 (h:K (a.put o.dst undef) (w.setRow g (putA old off v.cells))):Oper.wp Tryz.prog o a w K Q:=by
 have hrun:=run_put hT w g off t old v hv h1 hg h2
 unfold Oper.wp execOp
 simp only[ho,hx,hy,Instr.storeAt,Instr.sureAddr,Sem.run_bind,Sem.run_pure,Result.andThen_ok,hrun]
 exact h
end
theorem cel3:Cel 3 1:=by unfold Cel;kernel_rfl
theorem cel4:Cel 4 1:=by unfold Cel;kernel_rfl
theorem cel9:Cel 9 1:=by unfold Cel;kernel_rfl
theorem cel28:Cel 28 1:=by unfold Cel;kernel_rfl
theorem cel30:Cel 30 1:=by unfold Cel;kernel_rfl
theorem cel31:Cel 31 1:=by unfold Cel;kernel_rfl
theorem cel32:Cel 32 1:=by unfold Cel;kernel_rfl
theorem cel36:Cel 36 1:=by unfold Cel;kernel_rfl
theorem cel40:Cel 40 1:=by unfold Cel;kernel_rfl
theorem cel35:Cel 35 2:=by unfold Cel;kernel_rfl
theorem cel39:Cel 39 3:=by unfold Cel;kernel_rfl
theorem cel29:Cel 29 32:=by unfold Cel;kernel_rfl
theorem cel85:Cel 85 17:=by unfold Cel;kernel_rfl
end Go.Proofs.YtdmhfogegfmnfaaGreatDoor
