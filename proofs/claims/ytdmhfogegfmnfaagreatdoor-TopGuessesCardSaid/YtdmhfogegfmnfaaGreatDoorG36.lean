/- Plain: what retires is the beginning of the program's own steps: the parts of a cycle. No conditions. Plain: what retires is the beginning of the program's own steps. No conditions. Contracts: what retires with whatever guesses is the beginning of one row of steps. Conditions: the slices read as lists, the table of codes is as laid. -/
import Derived.Test.YtdmhfogegfmnfaaGreatDoorG01
import Derived.Test.YtdmhfogegfmnfaaGreatDoorG04
import Derived.Test.YtdmhfogegfmnfaaGreatDoorG33
import Derived.Test.YtdmhfogegfmnfaaGreatDoorG34
import Derived.Test.YtdmhfogegfmnfaaGreatDoorG35
set_option maxRecDepth 100000
set_option maxHeartbeats 8000000
set_option linter.unusedVariables false
set_option linter.unusedSimpArgs false
namespace Go.Proofs.YtdmhfogegfmnfaaGreatDoor
open Go.RowKit
def runX(prog:List U)(m:By):Nat→(List U×By)×U
 | 0=>((List.replicate 32 (U.of 0),m),U.of 0)
 | n+1=>(fwd prog (runX prog m n).1 (runX prog m n).2,(seq1 prog (runX prog m n).1 (runX prog m n).2).next)
def runS(prog:List U)(m:By)(n:Nat):List St:=(List.range n).map fun k=>seq1 prog (runX prog m k).1 (runX prog m k).2
theorem runS_succ(prog:List U)(m:By)(n:Nat):runS prog m (n+1)=runS prog m n++[seq1 prog (runX prog m n).1 (runX prog m n).2]:=by
 unfold runS
 rw[List.range_succ,List.map_append]
 rfl
def lnk:U→List (U×U×In)→U→Prop
 | p,[],q=>p=q
 | p,y::L,q=>y.1=p∧lnk y.2.1 L q
theorem lnk_app:∀(A B:List (U×U×In)) (p q:U),lnk p (A++B) q↔∃ r,lnk p A r∧lnk r B q
 | [],B,p,q=>⟨fun h=>⟨p,rfl,h⟩,fun⟨r,h1,h2⟩=>by have h1:p=r:=h1;rw[h1];exact h2⟩
 | y::A,B,p,q=>by
  constructor
  ·rintro⟨h1,h2⟩
   obtain⟨r,h3,h4⟩:=(lnk_app A B _ _).1 h2
   exact⟨r,⟨h1,h3⟩,h4⟩
  ·rintro⟨r,⟨h1,h3⟩,h4⟩
   exact⟨h1,(lnk_app A B _ _).2 ⟨r,h3,h4⟩⟩
def fpath(l:List Fe):List (U×U×In):=l.map fun f=>(f.pc,f.guess,default)
def plainP(prog:List U)(pc:U):Prop:=(fetchM prog pc).2=false∨(dec (fetchM prog pc).1).2≠0∨kd (dec (fetchM prog pc).1).1.op≠5
structure Ok(prog:List U)(m:By)(c:Co):Prop where
 inv:Inv c
 pr:c.prog=prog
 r32:c.regs.length=32
 past:c.retired=runS prog m c.retired.length
 now:c.halt=0→st c=(runX prog m c.retired.length).1∧RI prog (st c) c.rob∧∃ q,lnk (runX prog m c.retired.length).2 (ppath c.rob++fpath c.fetched) q∧(c.stop=false→q=c.fetch)
 ges:∀ e∈c.rob,kd e.i.op≠5→e.guess=addU e.pc 4
 gef:∀ f∈c.fetched,plainP prog f.pc→f.guess=addU f.pc 4
section
variable {prog:List U} {m:By}
theorem path_ges{l l':List En}(h:ppath l'=ppath l)(g:∀ e∈l,kd e.i.op≠5→e.guess=addU e.pc 4):∀ e∈l',kd e.i.op≠5→e.guess=addU e.pc 4:=by
 intro e he hk
 have h1:(e.pc,e.guess,e.i)∈ppath l:=by rw[← h];exact List.mem_map.2 ⟨e,he,rfl⟩
 obtain⟨f,hf,e1⟩:=List.mem_map.1 h1
 injection e1 with a b
 injection b with b c
 rw[← c]at hk
 rw[← a,← b]
 exact g f hf hk
theorem Ok.keep{c c':Co}(h:Ok prog m c)(hI:Inv c')(h1:c'.prog=c.prog)(h2:c'.regs=c.regs)(h3:c'.retired=c.retired)(h4:c'.halt=c.halt)(h5:c.halt=0→memV c'=memV c)(h6:ppath c'.rob=ppath c.rob)(h7:c'.fetched=c.fetched)(h8:c'.stop=c.stop)(h9:c'.fetch=c.fetch)(h10:c.halt=0→RI prog (st c) c'.rob):Ok prog m c':=by
 refine⟨hI,h1.trans h.pr,by rw[h2];exact h.r32,by rw[h3];exact h.past,fun q=>?_,path_ges h6 h.ges,by rw[h7];exact h.gef⟩
 rw[h4]at q
 obtain⟨a,_,g,b1,b2⟩:=h.now q
 have hs:st c'=st c:=by unfold st;rw[h2,h5 q]
 rw[hs,h3,h6,h7,h8,h9]
 exact⟨a,h10 q,g,b1,b2⟩
theorem Ok.cyc{c:Co}(h:Ok prog m c)(x:Int)(p:Nat):Ok prog m { c with cycle:=x,ph:=p } :=
 h.keep (h.inv.of rfl rfl rfl rfl h.inv.rob h.inv.sto) rfl rfl rfl rfl (fun _=>rfl) rfl rfl rfl rfl (fun q=>(h.now q).2.1)
theorem path_map{l:List En}{f:En→En}(h:∀ e,(f e).pc=e.pc∧(f e).guess=e.guess∧(f e).i=e.i):ppath (l.map f)=ppath l:=by
 unfold ppath
 rw[List.map_map]
 apply List.map_congr_left
 intro e _
 obtain⟨a,b,c⟩:=h e
 show((f e).pc,(f e).guess,(f e).i)=_
 rw[a,b,c]
theorem fillE_i(c:Co)(u:U)(e:En):(fillE c u e).pc=e.pc∧(fillE c u e).guess=e.guess∧(fillE c u e).i=e.i:=by
 unfold fillE
 split
 ·obtain⟨a,b,d⟩:=takeE_i { e with filled:=true } (bytesE c { e with filled:=true })
  exact⟨b,d,a⟩
 ·exact⟨rfl,rfl,rfl⟩
theorem RI.fill{x:List U×By}{l:List En}(h:RI prog x l)(c:Co)(hc:memV c=x.2)(u:U):RI prog x (l.map (fillE c u)):=by
 refine h.upd (List.length_map ..) fun i e e' he he'=>?_
 rw[List.getElem?_map,he]at he'
 cases he'
 obtain⟨a,b,d⟩:=fillE_i c u e
 refine⟨a,d,fun hv q=>?_,fun q=>?_,fun _ p q=>?_⟩
 ·unfold fillE
  split
  ·rename_i k
   refine(q.fill true).takeE fun k1 k2=>?_
   have:=h.mems he hv k2 k1 (h.nl i e he k.1)
   show(readM (memV c) e.addr (sz e.i.op)).1=_
   rw[hc,this]
  ·exact q
 ·unfold fillE at q ⊢
  split
  ·rename_i k
   obtain⟨_,t,_⟩:=takeE_k { e with filled:=true } (bytesE c { e with filled:=true })
   exact⟨t,.inl k.1⟩
  ·rename_i k
   rw[if_neg k]at q
   exact⟨rfl,.inl q⟩
 ·unfold fillE
  split
  ·obtain⟨s,t,r,_⟩:=takeE_k { e with filled:=true } (bytesE c { e with filled:=true })
   exact⟨s.trans p,r.trans q,t⟩
  ·exact⟨p,q,rfl⟩
theorem Ok.ticks{c:Co}(h:Ok prog m c):Ok prog m (ticksC c):=by
 have hm:=memV_ticks h.inv
 have hI:=h.inv.ticks
 obtain⟨q,d,ok,ht,h1,h2,h3⟩:=tick_cases c
 rw[h3]at hm hI ⊢
 cases ok with
 | false=>
  rw[if_pos rfl]at hm hI ⊢
  exact h.keep hI rfl rfl rfl rfl (fun _=>hm) rfl rfl rfl rfl (fun z=>(h.now z).2.1)
 | true=>
  rw[if_neg (by simp)]at hm hI ⊢
  split at hm
  ·rename_i k
   rw[if_pos k]at hI ⊢
   have hm1:memV { c with bus:=q }=memV c:=hm
   refine h.keep hI rfl rfl rfl rfl (fun _=>hm) (path_map (fillE_i _ _)) rfl rfl rfl (fun z=>(h.now z).2.1.fill _ hm1 _)
  ·rename_i k
   rw[if_neg k]at hI ⊢
   split at hm
   ·rename_i k2
    rw[if_pos k2]at hI ⊢
    exact h.keep hI rfl rfl rfl rfl (fun _=>hm) rfl rfl rfl rfl (fun z=>(h.now z).2.1)
   ·rename_i k2
    rw[if_neg k2]at hI ⊢
    split at hm
    ·rename_i k3
     rw[if_pos k3]at hI ⊢
     exact h.keep hI rfl rfl rfl rfl (fun _=>hm) rfl rfl rfl rfl (fun z=>(h.now z).2.1)
    ·rename_i k3
     rw[if_neg k3]at hI ⊢
     split at hm
     ·rename_i k4
      rw[if_pos k4]at hI ⊢
      exact h.keep hI rfl rfl rfl rfl (fun _=>hm) rfl rfl rfl rfl (fun z=>(h.now z).2.1)
     ·rename_i k4
      rw[if_neg k4]at hI ⊢
      exact h.keep hI rfl rfl rfl rfl (fun _=>hm) rfl rfl rfl rfl (fun z=>(h.now z).2.1)
theorem goE_k(e:En):(goE e).pc=e.pc∧(goE e).guess=e.guess∧(goE e).i=e.i∧((goE e).is=2→goE e=e)∧(goE e).addr=e.addr∧(goE e).halt=e.halt∧(e.known=true→(goE e).known=true):=by
 unfold goE
 split
 ·exact⟨rfl,rfl,rfl,fun _=>rfl,rfl,rfl,fun q=>q⟩
 ·rename_i h
  have h1:e.is=1:=by omega
  split
  ·refine⟨rfl,rfl,rfl,fun q=>absurd (show(3:Int)=2 from q) (by decide),rfl,rfl,fun q=>?_⟩
   show(if _ then true else e.known)=true
   split
   ·rfl
   ·exact q
  ·refine⟨rfl,rfl,rfl,fun q=>?_,rfl,rfl,fun q=>q⟩
   have q':e.is=2:=q
   omega
theorem RI.go{x:List U×By}{l:List En}(h:RI prog x l):RI prog x (l.map goE):=by
 refine h.upd (List.length_map ..) fun i e e' he he'=>?_
 rw[List.getElem?_map,he]at he'
 cases he'
 obtain⟨a,b,d,g,r,s,t⟩:=goE_k e
 refine⟨a,d,fun _ q=>q.go,fun q=>?_,fun _ p q=>⟨t p,s.trans q,r⟩⟩
 have:=g q
 rw[this]at q
 exact⟨r,.inl q⟩
theorem storeE_k(e:En)(b:U):((storeE e b).is=2→e.is=2)∧(storeE e b).known=e.known∧(storeE e b).halt=e.halt∧(storeE e b).addr=e.addr:=by
 unfold storeE
 split
 ·exact⟨fun q=>q,rfl,rfl,rfl⟩
 ·exact⟨fun q=>absurd (show(3:Int)=2 from q) (by decide),rfl,rfl,rfl⟩
theorem RI.storeAt{regs:List U}{M:By}{l:List En}(h:RI prog (regs,M) l)(h32:regs.length=32){i:Nat}(hi:i<l.length):RI prog (regs,M) (storeAt regs l i)∧ppath (storeAt regs l i)=ppath l∧(storeAt regs l i).length=l.length:=by
 obtain⟨e,hE⟩:∃ e,l[i]?=some e:=⟨_,List.getElem?_eq_getElem hi⟩
 have hg:l.getD i default=e:=by rw[List.getD_eq_getElem?_getD,hE];rfl
 unfold Go.Proofs.YtdmhfogegfmnfaaGreatDoor.storeAt
 simp only[hg]
 split
 ·exact⟨h,rfl,rfl⟩
 ·split
  ·rename_i k1 k2
   obtain⟨a,b,d⟩:=storeE_i e (readE l regs i e.i.r2).1
   obtain⟨p,q,r,s⟩:=storeE_k e (readE l regs i e.i.r2).1
   refine⟨h.set hE b a (fun hv z=>z.storeE (h.read h32 (by omega) hv k2)) (fun z=>⟨s,.inl (p z)⟩) (fun _ u v=>⟨q.trans u,r.trans v,s⟩),path_set hE b d a,List.length_set ..⟩
  ·exact⟨h,rfl,rfl⟩
theorem RI.storesF{regs:List U}{M:By}(h32:regs.length=32):∀(is:List Nat) (l:List En),(∀ i∈is,i<l.length)→RI prog (regs,M) l→RI prog (regs,M) (is.foldl (Go.Proofs.YtdmhfogegfmnfaaGreatDoor.storeAt regs) l)∧ppath (is.foldl (Go.Proofs.YtdmhfogegfmnfaaGreatDoor.storeAt regs) l)=ppath l
 | [],l,_,h=>⟨h,rfl⟩
 | i::is,l,hi,h=>by
  obtain⟨a,b,c⟩:=h.storeAt h32 (hi i mm0)
  obtain⟨d,e⟩:=RI.storesF h32 is _ (fun j hj=>by rw[c];exact hi j (List.mem_cons_of_mem _ hj)) a
  exact⟨d,e.trans b⟩
theorem RI.stores{regs:List U}{M:By}{l:List En}(h:RI prog (regs,M) l)(h32:regs.length=32):RI prog (regs,M) (storesR regs l)∧ppath (storesR regs l)=ppath l:=
 RI.storesF h32 _ l (fun i hi=>List.mem_range.1 hi) h
theorem wrongI_spec:∀(l:List En) (n:Nat),(wrongI l n= -1∧∀ e∈l,wrongE e=false)∨∃(k:Nat) (e:En),wrongI l n=((n+k:Nat):Int)∧l[k]?=some e∧wrongE e=true∧∀ f∈l.take k,wrongE f=false
 | [],n=>.inl ⟨rfl,fun e he=>by cases he⟩
 | e::l,n=>by
  unfold wrongI
  cases h:wrongE e with
  | true=>exact .inr ⟨0,e,by simp,rfl,h,fun f hf=>by cases hf⟩
  | false=>
   rw[if_neg (by simp)]
   rcases wrongI_spec l (n+1)with⟨a,b⟩|⟨k,f,a,b,c,d⟩
   ·refine .inl ⟨a,fun g hg=>?_⟩
    rcases List.mem_cons.1 hg with q|q
    ·rw[q];exact h
    ·exact b g q
   ·refine .inr ⟨k+1,f,by rw[a];congr 1;omega,b,c,fun g hg=>?_⟩
    rcases List.mem_cons.1 (show g∈e::l.take k from hg)with q|q
    ·rw[q];exact h
    ·exact d g q
theorem cut_eq'{l:List En}{k:Nat}{e:En}(h:l[k]?=some e):cutR l k=l.take k++[{ e with guess:=e.next }]:=by
 have hg:l.getD k ⟨0,U.of 0,⟨0,0,0,0,U.of 0⟩,U.of 0,0,0,U.of 0,U.of 0,U.of 0,0,0,false,false⟩=e:=by rw[List.getD_eq_getElem?_getD,h];rfl
 unfold cutR
 rw[hg]
theorem cut_set{l:List En}{k:Nat}{e e':En}(h:l[k]?=some e):(l.take (k+1)).set k e'=l.take k++[e']:=by
 obtain⟨h1,h2⟩:=List.getElem?_eq_some_iff.1 h
 rw[List.take_succ_eq_append_getElem h1,List.set_append_right _ _ (by simp;omega)]
 congr 1
 have:k-(l.take k).length=0:=by simp;omega
 rw[this]
 rfl
theorem Ok.works{c:Co}(h:Ok prog m c):Ok prog m (worksC c)∧((worksC c).halt=0→∀ e∈(worksC c).rob,wrongE e=false):=by
 have hI:=h.inv.works
 by_cases h0:c.halt=0
 ·obtain⟨n1,n2,q,n3,n4⟩:=h.now h0
  obtain⟨s1,s2⟩:=(n2.go).stores (regs:=c.regs) (M:=memV c) h.r32
  have hp:ppath (storesR c.regs (c.rob.map goE))=ppath c.rob:=s2.trans (path_map fun e=>by obtain⟨a,b,d,_⟩:=goE_k e;exact⟨a,b,d⟩)
  unfold worksC at hI ⊢
  rw[if_neg (by omega)]at hI ⊢
  simp only at hI ⊢
  generalize hL:storesR c.regs (c.rob.map goE)=l at hI s1 hp ⊢
  rcases wrongI_spec l 0 with⟨a,b⟩|⟨k,e,a,b,d,g⟩
  ·rw[if_neg (by omega)]at hI ⊢
   exact⟨h.keep hI rfl rfl rfl rfl (fun _=>rfl) hp rfl rfl rfl (fun _=>s1),fun _=>b⟩
  ·have ek:(wrongI l 0).toNat=k:=by omega
   have hg:l.getD k default=e:=by rw[List.getD_eq_getElem?_getD,b];rfl
   rw[if_pos (by omega)]at hI ⊢
   rw[ek,cut_eq' b,hg]at hI ⊢
   have hj:kd e.i.op=5:=by
    unfold wrongE at d
    simp only[Bool.and_eq_true,decide_eq_true_eq]at d
    exact d.1.1
   have hmem:∀ f∈l.take k++[{ e with guess:=e.next }],f∈l.take k∨f={ e with guess:=e.next }:=fun f hf=>by
    rcases List.mem_append.1 hf with z|z
    ·exact .inl z
    ·exact .inr (List.mem_singleton.1 z)
   refine⟨⟨hI,h.pr,h.r32,h.past,fun _=>⟨n1,?_,e.next,?_,fun _=>rfl⟩,fun f hf hk=>?_,fun f hf=>by cases hf⟩,fun _ f hf=>?_⟩
   ·have ht:=s1.take (k+1)
    have hk:(l.take (k+1))[k]?=some e:=by rw[List.getElem?_take,if_pos (by omega)];exact b
    have:=ht.set (e':={ e with guess:=e.next }) hk rfl rfl (fun _ z=>z.guess _) (fun z=>⟨rfl,.inl z⟩) (fun _ u v=>⟨u,v,rfl⟩)
    rw[cut_set b]at this
    exact this
   ·show lnk _ (ppath (l.take k++[{ e with guess:=e.next }])++[]) _
    rw[← hp]at n3
    obtain⟨h1,h2⟩:=List.getElem?_eq_some_iff.1 b
    have e1:ppath l=ppath (l.take k)++(e.pc,e.guess,e.i)::ppath (l.drop (k+1)):=by
     conv=>lhs;rw[← List.take_append_drop k l,List.drop_eq_getElem_cons h1,h2]
     unfold ppath
     rw[List.map_append]
     rfl
    rw[e1,List.append_assoc]at n3
    obtain⟨r,r1,r2⟩:=(lnk_app _ _ _ _).1 n3
    have r3:e.pc=r:=r2.1
    rw[List.append_nil]
    show lnk _ (List.map _ _) _
    rw[List.map_append]
    exact(lnk_app _ _ _ _).2 ⟨r,r1,r3,rfl⟩
   ·rcases hmem f hf with z|z
    ·exact path_ges hp h.ges f (List.mem_of_mem_take z) hk
    ·rw[z]at hk;exact absurd hj hk
   ·rcases hmem f hf with z|z
    ·exact g f z
    ·rw[z]
     unfold wrongE
     simp
 ·have:worksC c=c:=by unfold worksC;rw[if_pos h0]
  rw[this]
  exact⟨h,fun q=>absurd q h0⟩
end
section
variable {prog:List U} {m:By}
def NW(c:Co):Prop:=c.halt=0→∀ e∈c.rob,wrongE e=false
theorem Ok.retire{c:Co}(h:Ok prog m c)(hw:NW c)(g:Gu):Ok prog m (retire1 g c)∧NW (retire1 g c):=by
 have hI:=h.inv.retire g
 unfold retire1 at hI ⊢
 by_cases h0:c.halt≠0
 ·rw[if_pos h0];exact⟨h,hw⟩
 ·rw[if_neg h0]at hI ⊢
  have h0':c.halt=0:=by omega
  split at hI
  ·exact⟨h,hw⟩
  ·rename_i e l hl
   simp only at hI ⊢
   split at hI
   ·rename_i k;rw[if_pos k];exact⟨h,hw⟩
   ·rename_i his
    rw[if_neg his]
    have his:e.is=3:=by omega
    obtain⟨n1,n2,q,n3,n4⟩:=h.now h0'
    rw[hl]at n2 n3
    have hv0:Lv prog (st c) (e::l) 0:=fun j f hj _=>by omega
    have hei:EI prog (st c) e:=n2.ei 0 e rfl hv0
    have ht:=hei.told (.inr his)
    have hpc:e.pc=(runX prog m c.retired.length).2:=n3.1
    have hlast:c.retired++[toldE e]=runS prog m (c.retired++[toldE e]).length:=by
     rw[List.length_append,List.length_singleton,runS_succ,← h.past,← n1,← hpc,ht]
    split at hI
    ·rename_i k
     rw[if_pos k]
     refine⟨⟨hI,h.pr,h.r32,hlast,fun z=>absurd z k,(fun f hf=>by cases hf),(fun f hf=>by cases hf)⟩,fun z=>absurd z k⟩
    ·rename_i k
     rw[if_neg k]
     split at hI
     ·rename_i k2;rw[if_pos k2];exact⟨h,hw⟩
     ·rename_i k2
      rw[if_neg k2]
      have k:(toldE e).halt=0:=by omega
      have hh:e.halt=0:=by rw[← told_halt];exact k
      have hge:=h.ges e (by rw[hl];exact List.mem_cons_self ..)
      have hnx:(toldE e).next=e.guess:=by
       rw[told_next hh]
       split
       ·rename_i k5
        have hkn:=hei.jk k5 his hh
        have:=hw h0' e (by rw[hl];exact List.mem_cons_self ..)
        unfold wrongE at this
        rw[hkn]at this
        simpa [k5] using this
       ·rename_i k5
        exact(hge k5).symm
      have key:∀ y:Co,Inv y→y.prog=c.prog→y.retired=c.retired++[toldE e]→y.halt=c.halt→y.rob=l→y.fetched=c.fetched→y.stop=c.stop→y.fetch=c.fetch→st y=fwd prog (st c) e.pc→Ok prog m y∧NW y:=fun y y1 y2 y3 y4 y5 y6 y7 y8 y9=>by
       have hlen:y.retired.length=c.retired.length+1:=by rw[y3];simp
       have hr:(runX prog m (c.retired.length+1)).1=fwd prog (st c) e.pc:=by
        show fwd prog (runX prog m c.retired.length).1 (runX prog m c.retired.length).2=_
        rw[← n1,← hpc]
       have hr2:(runX prog m (c.retired.length+1)).2=e.guess:=by
        show(seq1 prog (runX prog m c.retired.length).1 (runX prog m c.retired.length).2).next=_
        rw[← n1,← hpc,← ht,hnx]
       refine⟨⟨y1,y2.trans h.pr,?_,by rw[y3];exact hlast,fun _=>⟨?_,?_,q,?_,?_⟩,?_,by rw[y6];exact h.gef⟩,fun z f hf=>?_⟩
       ·have:y.regs=(st y).1:=rfl
        rw[this,y9]
        exact(apply_len _ _).trans h.r32
       ·rw[y9,hlen,hr]
       ·rw[y9,y5]
        exact n2.tail (by rw[← ht];exact k)
       ·rw[hlen,hr2,y5,y6]
        exact n3.2
       ·rw[y7,y8];exact n4
       ·rw[y5]
        exact fun f hf=>h.ges f (by rw[hl];exact List.mem_cons_of_mem _ hf)
       ·rw[y5]at hf
        exact hw h0' f (by rw[hl];exact List.mem_cons_of_mem _ hf)
      have hregs:applyR c.regs (toldE e)=(fwd prog (st c) e.pc).1:=by
       unfold fwd
       rw[← ht]
       rfl
      have hmem:memV { c with retired:=c.retired++[toldE e],stores:=c.stores++(storedS (toldE e)).toList }=(fwd prog (st c) e.pc).2:=by
       unfold fwd
       rw[← ht]
       show allM (c.stores++(storedS (toldE e)).toList) c.data c.bus c.mem=overM (allM c.stores c.data c.bus c.mem) _
       unfold allM
       rw[ov_app]
      split at hI
      ·rename_i k3
       rw[if_pos k3]
       refine key _ hI rfl rfl rfl rfl rfl rfl rfl ?_
       have hst:storedS (toldE e)=none:=told_nostore (.inr (by omega))
       have hc1:Inv { c with retired:=c.retired++[toldE e],stores:=c.stores++(storedS (toldE e)).toList } :=
        h.inv.of rfl rfl rfl rfl h.inv.rob (fun p hp=>h.inv.sto p (by rw[hst]at hp;simpa using hp))
       obtain⟨a,b⟩:=h.inv.rob e (by rw[hl];exact List.mem_cons_self ..) (.inl k3)
       have hkn:=(b (by omega)).resolve_right (by omega)
       have hbr:=memV_bring hc1 (line:=(toldE e).addr) (by rw[told_load hh k3];exact ln_of h.inv.m16 (a hkn))
       show(applyR c.regs (toldE e),memV (bringC { c with retired:=c.retired++[toldE e],stores:=c.stores++(storedS (toldE e)).toList } (toldE e).addr))=_
       rw[hbr,hmem,hregs]
      ·rename_i k3
       rw[if_neg k3]
       refine key _ hI rfl rfl rfl rfl rfl rfl rfl ?_
       show(applyR c.regs (toldE e),memV { c with retired:=c.retired++[toldE e],stores:=c.stores++(storedS (toldE e)).toList })=_
       rw[hmem,hregs]
theorem Ok.retireF:∀(gs:List Gu) (c:Co),Ok prog m c→NW c→Ok prog m (gs.foldl (fun c g=>retire1 g c) c)
 | [],c,h,_=>h
 | g::gs,c,h,hw=>Ok.retireF gs _ (h.retire hw g).1 (h.retire hw g).2
theorem Ok.starts{c c':Co}(h:Ok prog m c)(hs:StartsS c c'):Ok prog m c':=by
 have hI:=h.inv.startsS hs
 rcases hs with⟨_,rfl⟩|⟨h0,ps,h1,_,rfl⟩
 ·exact h
 ·obtain⟨a,b⟩:=starts_ok (prog:=prog) (c:=c) h.r32 ps c h1 (h.now h0).2.1 (Fr.refl c) (Kpt.refl _)
  exact h.keep hI b.prog b.regs b.retired b.halt (fun _=>b.mem) b.path b.fetched b.stop b.fetch (fun _=>a)
theorem new_plain(no:Int)(f:Fe):kd (newE no f prog).i.op≠5→plainP prog f.pc:=by
 unfold newE plainP
 intro h
 simp only at h
 split at h
 ·rename_i k;exact .inl k
 ·split at h
  ·rename_i k;exact .inr (.inl k)
  ·exact .inr (.inr h)
theorem Ok.enter{c:Co}(h:Ok prog m c):Ok prog m (enter1 c):=by
 have hI:=h.inv.enter
 unfold enter1 at hI ⊢
 by_cases h0:c.halt≠0
 ·rw[if_pos h0];exact h
 ·rw[if_neg h0]at hI ⊢
  have h0':c.halt=0:=by omega
  split at hI
  ·exact h
  ·rename_i f l hl
   split at hI
   ·rename_i k;rw[if_pos k];exact h
   ·rename_i k
    rw[if_neg k]
    obtain⟨n1,n2,q,n3,n4⟩:=h.now h0'
    have hpr:=h.pr
    have hnew:∀ e,e∈c.rob++[newE c.next f c.prog]→e∈c.rob∨e=newE c.next f prog:=fun e he=>by
     rcases List.mem_append.1 he with z|z
     ·exact .inl z
     ·rw[hpr]at z;exact .inr (List.mem_singleton.1 z)
    refine⟨hI,h.pr,h.r32,h.past,fun _=>⟨n1,?_,q,?_,n4⟩,fun e he hk=>?_,fun g hg=>h.gef g (by rw[hl];exact List.mem_cons_of_mem _ hg)⟩
    ·show RI prog (st c) (c.rob++[newE c.next f c.prog])
     rw[hpr]
     refine n2.snoc (fun y=>EI.new _ _ _ _) ?_
     have e:=newE_eq c.next f prog
     have h1:=(nw_is prog f.pc).1
     have:(newE c.next f prog).is=(nw prog f.pc).is:=by rw[e]
     omega
    ·rw[hl]at n3
     show lnk _ (ppath (c.rob++[newE c.next f c.prog])++fpath l) q
     unfold ppath
     rw[List.map_append,List.append_assoc]
     obtain⟨r,r1,r2⟩:=(lnk_app _ _ _ _).1 n3
     refine(lnk_app _ _ _ _).2 ⟨r,r1,?_⟩
     show(newE c.next f c.prog).pc=r∧lnk (newE c.next f c.prog).guess (fpath l) q
     rw[newE_pc,newE_guess]
     exact r2
    ·rcases hnew e he with z|z
     ·exact h.ges e z hk
     ·rw[z]at hk ⊢
      rw[newE_pc,newE_guess]
      exact h.gef f (by rw[hl];exact List.mem_cons_self ..) (new_plain _ _ hk)
theorem Ok.enterN:∀(n:Nat) (c:Co),Ok prog m c→Ok prog m (timesC enter1 n c)
 | 0,c,h=>h
 | n+1,c,h=>Ok.enterN n _ h.enter
theorem Ok.ask{c:Co}(h:Ok prog m c)(kind:Int)(line:U)(h3:kind=3→Ln c.mem.length line)(h4:kind≠4):Ok prog m (askC c kind line []):=
 h.keep (h.inv.ask kind line h3 h4) rfl rfl rfl rfl (fun _=>memV_ask _ _ _ h4) rfl rfl rfl rfl (fun q=>(h.now q).2.1)
theorem Ok.fetch{c:Co}(h:Ok prog m c)(u:U)(gd:Int):Ok prog m (fetch1 u gd c):=by
 have hI:=h.inv.fetch u gd
 unfold fetch1 at hI ⊢
 simp only at hI ⊢
 generalize hx:(if plainW c=true then addU c.fetch 4 else u)=x at hI ⊢
 by_cases h0:c.halt≠0∨c.stop=true∨c.conf.queue≤c.fetched.length
 ·rw[if_pos h0];exact h
 ·rw[if_neg h0]at hI ⊢
  have hst:c.stop=false:=by
   cases q:c.stop with
   | false=>rfl
   | true=>exact absurd (.inr (.inl q)) h0
  have more:∀(y:Co) (g:U),Inv y→y.prog=c.prog→y.regs=c.regs→y.retired=c.retired→y.halt=c.halt→memV y=memV c→y.rob=c.rob→y.fetched=c.fetched++[⟨c.fetch,g⟩]→(y.stop=false→g=y.fetch)→(plainP prog c.fetch→g=addU c.fetch 4)→Ok prog m y:=fun y g y1 y2 y3 y4 y5 y6 y7 y8 y9 y10=>by
   have hs:st y=st c:=by unfold st;rw[y3,y6]
   refine⟨y1,y2.trans h.pr,by rw[y3];exact h.r32,by rw[y4];exact h.past,fun z=>?_,by rw[y7];exact h.ges,fun f hf hk=>?_⟩
   ·rw[y5]at z
    obtain⟨n1,n2,q,n3,n4⟩:=h.now z
    rw[hs,y4,y7,y8]
    refine⟨n1,n2,g,?_,y9⟩
    have:fpath (c.fetched++[⟨c.fetch,g⟩])=fpath c.fetched++[(c.fetch,g,default)]:=by unfold fpath;rw[List.map_append];rfl
    rw[this,← List.append_assoc]
    exact(lnk_app _ _ _ _).2 ⟨q,n3,(n4 hst).symm,rfl⟩
   ·rw[y8]at hf
    rcases List.mem_append.1 hf with w|w
    ·exact h.gef f w hk
    ·rw[List.mem_singleton.1 w]at hk ⊢
     exact y10 hk
  split at hI
  ·rename_i k
   rw[if_pos k]
   exact more _ (addU c.fetch 4) hI rfl rfl rfl rfl rfl rfl rfl (fun q=>by cases q) (fun _=>rfl)
  ·rename_i k
   rw[if_neg k]
   split at hI
   ·rename_i k2
    rw[if_pos k2]
    split at hI
    ·rename_i k3
     rw[if_pos k3]
     exact h.ask 2 _ (fun q=>absurd q (by decide)) (by decide)
    ·rename_i k3
     rw[if_neg k3]
     exact h
   ·rename_i k2
    rw[if_neg k2]
    refine more _ x hI rfl rfl rfl rfl rfl rfl rfl (fun _=>rfl) (fun hp=>?_)
    rw[← hx,if_pos]
    unfold plainW
    unfold plainP at hp
    rw[← h.pr]at hp
    simp only[Bool.or_eq_true,Bool.not_eq_true',decide_eq_false_iff_not]
    rcases hp with z|z|z
    ·exact absurd z k
    ·exact .inl z
    ·exact .inr z
theorem Ok.fetchF:∀(gs:List (U×Int)) (c:Co),Ok prog m c→Ok prog m (gs.foldl (fun c g=>fetch1 g.1 g.2 c) c)
 | [],c,h=>h
 | g::gs,c,h=>Ok.fetchF gs _ (h.fetch g.1 g.2)
theorem drains_same(c:Co):(drainsC c).prog=c.prog∧(drainsC c).regs=c.regs∧(drainsC c).retired=c.retired∧(drainsC c).halt=c.halt∧(drainsC c).rob=c.rob∧(drainsC c).fetched=c.fetched∧(drainsC c).stop=c.stop∧(drainsC c).fetch=c.fetch:=by
 rw[dr_eq]
 have h2:∀(y:Co) (b:Bool),(dr2 y b).prog=y.prog∧(dr2 y b).regs=y.regs∧(dr2 y b).retired=y.retired∧(dr2 y b).halt=y.halt∧(dr2 y b).rob=y.rob∧(dr2 y b).fetched=y.fetched∧(dr2 y b).stop=y.stop∧(dr2 y b).fetch=y.fetch:=fun y b=>by
  unfold dr2
  split
  ·exact⟨rfl,rfl,rfl,rfl,rfl,rfl,rfl,rfl⟩
  ·split<;>exact⟨rfl,rfl,rfl,rfl,rfl,rfl,rfl,rfl⟩
 have h3:∀(y:Co),(dr3 y).prog=y.prog∧(dr3 y).regs=y.regs∧(dr3 y).retired=y.retired∧(dr3 y).halt=y.halt∧(dr3 y).rob=y.rob∧(dr3 y).fetched=y.fetched∧(dr3 y).stop=y.stop∧(dr3 y).fetch=y.fetch:=fun y=>by
  unfold dr3
  split
  ·exact⟨rfl,rfl,rfl,rfl,rfl,rfl,rfl,rfl⟩
  ·simp only
   split<;>exact⟨rfl,rfl,rfl,rfl,rfl,rfl,rfl,rfl⟩
 obtain⟨a1,a2,a3,a4,a5,a6,a7,a8⟩:=h3 (dr2 (dr1 c) (drainS c.stores c.data).2.2)
 obtain⟨b1,b2,b3,b4,b5,b6,b7,b8⟩:=h2 (dr1 c) (drainS c.stores c.data).2.2
 exact⟨a1.trans b1,a2.trans b2,a3.trans b3,a4.trans b4,a5.trans b5,a6.trans b6,a7.trans b7,a8.trans b8⟩
theorem Ok.drains{c:Co}(h:Ok prog m c):Ok prog m (drainsC c):=by
 obtain⟨b1,b2,b3,b4,b5,b6,b7,b8⟩:=drains_same c
 exact h.keep h.inv.drains b1 b2 b3 b4 (fun q=>memV_drains h.inv q) (by rw[b5]) b6 b7 b8 (fun q=>by rw[b5];exact(h.now q).2.1)
theorem Ok.step{c c':Co}(h:Ok prog m c)(hs:StepS c c'):Ok prog m c':=by
 rcases hs with⟨_,rfl⟩|⟨_,c3,c4,c6,⟨gs,_,h1⟩,h2,⟨fs,_,h3⟩,rfl⟩
 ·exact h
 ·obtain⟨w1,w2⟩:=(h.cyc (wrap64 (c.cycle+1)) 0).ticks.works
  have r:Ok prog m c3:=by rw[h1];exact Ok.retireF gs _ w1 w2
  have e:Ok prog m (entersC c4):=Ok.enterN _ _ (r.starts h2)
  have f:Ok prog m c6:=by rw[h3];exact Ok.fetchF fs _ (e.cyc (entersC c4).cycle 1)
  exact f.drains.cyc (drainsC c6).cycle 0
theorem Ok.new(f:Cf)(pr:List U)(mm:By):Ok (pr.take 64) (cleanM mm) (newCo f pr mm):=by
 have hl:linesC (newC (cleanF f).sets (cleanF f).ways)=[]:=by
  unfold linesC
  have:(newC (cleanF f).sets (cleanF f).ways).sets.flatten=[]:=List.eq_nil_iff_forall_not_mem.2 fun y hy=>(new_rc (cleanF f).sets (cleanF f).ways).2 y (has_iff.2 hy)
  rw[this]
  rfl
 have hm:st (newCo f pr mm)=(List.replicate 32 (U.of 0),cleanM mm):=by
  show(_,overM (overM (belowM [] (cleanM mm)) (linesC (newC (cleanF f).sets (cleanF f).ways))) [])=_
  rw[hl]
  rfl
 exact⟨new_inv f pr mm,rfl,by show(List.replicate 32 (U.of 0)).length=32;simp,rfl,fun _=>⟨hm,⟨(fun i e he=>by cases he),(fun i e he=>by cases he)⟩,U.of 0,rfl,fun _=>rfl⟩,(fun e he=>by cases he),(fun e he=>by cases he)⟩
theorem Ok.runs{a:Co}(h:Ok prog m a):∀ {k:Nat} {c:Co},RunsTo a k c→Ok prog m c
 | 0,c,q=>by rw[show c=a from q];exact h
 | k+1,c,⟨y,h1,h2⟩=>(Ok.runs h h1).step h2
end
theorem runs_same{f g:Cf}{pr:List U}{mm:By}{j k:Nat}{c d:Co}(h1:RunsTo (newCo f pr mm) j c)(h2:RunsTo (newCo g pr mm) k d)(i:Nat)(s t:St)(hs:c.retired[i]?=some s)(ht:d.retired[i]?=some t):s=t:=by
 have a:=((Ok.new f pr mm).runs h1).past
 have b:=((Ok.new g pr mm).runs h2).past
 have key:∀(n:Nat) (l:List St) (x:St),l=runS (pr.take 64) (cleanM mm) n→l[i]?=some x→x=seq1 (pr.take 64) (runX (pr.take 64) (cleanM mm) i).1 (runX (pr.take 64) (cleanM mm) i).2:=fun n l x e hx=>by
  rw[e]at hx
  unfold runS at hx
  rw[List.getElem?_map]at hx
  obtain⟨y,hy,e2⟩:=Option.map_eq_some_iff.1 hx
  obtain⟨h1,h2⟩:=List.getElem?_eq_some_iff.1 hy
  rw[List.getElem_range]at h2
  rw[← e2,← h2]
 rw[key _ _ s a hs,key _ _ t b ht]
theorem zero25(w:World):(zeroValue 25).run Tryz.prog w= .ok (.agg (cfC cfZ svZ svZ)) w:=by kernel_rfl
theorem slT56:SlT 56 40 1:=⟨Tryz.underlying56,.slice none 0 0,by kernel_rfl,by kernel_rfl,by decide⟩
theorem run_bs2{t e:TypeId}(hT:SlT t e 1)(w:World)(v u:Value)(hv:v.cells=#[v])(hu:u.cells=#[u]):(Instr.buildSlice t 2 #[(0,v),(1,u)]).run Tryz.prog w= .ok (.slice (some ⟨w.heap.size,0,none⟩) 2 2) (w.alloc (.cells #[v,u] e)):=by
 obtain⟨i,z,hx,hi,hz,hsz,hzs,hk0,hb⟩:=info_k hT
 have hfill:∀ base:Array Value,base.size=2→Instr.fill (fun i=>some (i,1)) base [(0,v),(1,u)]=some #[v,u]:=by
  intro base hb
  obtain⟨L⟩:=base
  match L,hb with
  | [x,y],_=>simp[Instr.fill,hv,hu]
 unfold Instr.buildSlice
 simp only[Sem.run_bind,run_underlying hx]
 simp[sizeOf,typeInfo,zeroValue,hi,hz,hsz,newRow,hfill ((Array.range 2).map (z.cells[· % z.cells.size]!)) (by simp)]
section
variable {ws w:World} {l:List Lc} {ops:Array Oper} {rest:List Oper} {o:Oper} {a:Act} {Q:Exit→Act→World→Prop}
theorem st_Lb2(hgd:o.guard=none)(v u:Value)(hv:v.cells=#[v])(hu:u.cells=#[u])(H:Lo ws w l)(x y:Operand){t e:TypeId}(hT:SlT t e 1)(ho:o.op= .buildSlice t 2 #[(0,x),(1,y)])(hx:a.eval x=v)(hy:a.eval y=u)(h:∀ w' b,Below w.heap.size w w'→Lo ws w' ((b,#[v,u],e)::l)→wpList Tryz.prog ops Q rest (a.put o.dst (.slice (some ⟨b,0,none⟩) 2 2)) w'):wpList Tryz.prog ops Q (o::rest) a w:=
 wpList_plain hgd fun K hK=>by
  have hrun:=run_bs2 hT w v u hv hu
  unfold Oper.wp execOp
  simp only[ho,List.map_toArray,List.map_cons,List.map_nil,hx,hy,Sem.run_bind,Sem.run_pure,Result.andThen_ok,hrun]
  exact hK _ _ (h _ _ ((Below.refl w.heap.size w).alloc (Nat.le_refl _) (.cells #[v,u] e)) (H.more #[v,u] e))
end
theorem CfIn.tape{w:World}{f:Cf}{l t:Sv}(h:CfIn w f l t){A:Option Addr}{n C:Nat}{tp:List U}(hT:Sl u32C 1 w A n tp)(b:Bool):CfIn w { f with tape:=tp,tables:=b } l ⟨A,n,C⟩:=
 ⟨h.n1,by show(tp.map _).length=n;rw[List.length_map];exact hT.len,h.b1,by show n≤_;have:=hT.few;omega,h.s1,toCnfU hT⟩
theorem CfIn.tab{w:World}{f:Cf}{l t:Sv}(h:CfIn w f l t)(b:Bool):CfIn w { f with tables:=b } l t:=⟨h.n1,h.n2,h.b1,h.b2,h.s1,h.s2⟩
theorem Lo.of_bl{w w':World}(h:Below w.heap.size w w'):Lo w w' []:=⟨h,(fun x hx=>by cases hx),List.Pairwise.nil⟩
theorem guesses_m(w0 w:World)(f:Cf)(l t:Sv)(kA:Option Addr)(kn kC:Nat)(tp:List U)(A:Option Addr)(n C:Nat)(pr:List U)(m:By)(k:Int)(hT:TabC w0)(hB:Below w0.heap.size w0 w)(h1:CfIn w f l t)(hTp:Sl u32C 1 w kA (min kn 64) tp)(hTW:Wf kA kn kC)(hP:Sl u32C 1 w A (min n 64) pr)(hW:Wf A n C):Calls Tryz.prog 4 #[.agg (cfC f l t),.slice kA kn kC,.slice A n C,.string (bs m),.int .i64 k] w fun e w'=>e= .returned (.bool true)∧Below w.heap.size w w':=by
 have H:=Lo.start w
 have HT:=Lib.hid hT
 have HB:=Lib.hid hB
 have HWf:=Lib.hid hW
 have hW2:Wf A (min n 64) C:=⟨hW.nil,Nat.le_trans (Nat.min_le_left ..) hW.le,hW.few⟩
 obtain⟨N,hN,hN2⟩:∃ N:Nat,min (max k 0) 200=(N:Int)∧N≤200:=⟨(min (max k 0) 200).toNat,by omega,by omega⟩
 obtain⟨me,hme⟩:∃ me,m.take 300=me:=⟨_,rfl⟩
 obtain⟨q,hq1,hq2,hq3⟩:∃ q:Nat,min (kn:Int) 64=(q:Int)∧q≤kn∧min kn 64=q:=⟨min kn 64,by omega,by omega,rfl⟩
 rw[hq3]at hTp
 have hC:=hTW.le
 have hC2:=hTW.few
 have b3':(0:Int)≤(q:Int):=by omega
 have b4':(q:Int)≤(kC:Int):=by omega
 have b5':q≤kC:=by omega
 have R1:=Lib.hid (runs_of (m:=me) (k:=(N:Int)) (by omega) hT hB h1 hP hW2)
 have R2:=Lib.hid (runs_of (m:=me) (k:=(N:Int)) (by omega) hT hB (h1.tape (C:=kC) hTp false) hP hW2)
 have R3:=Lib.hid (runs_of (m:=me) (k:=(N:Int)) (by omega) hT hB (h1.tab true) hP hW2)
 clear hT hB h1 hTp hTW hP hW hW2 hq3
 go_enter Tryz.func4,Tryz.ntmps4
 go_wp2_with (first|((with_reducible refine gD (Op.box 25 _) ?_);refine st_Lbox rfl _ H _ rfl rfl ?_;clear H;intro wC b5 H;try simp only[Act.put,xA,xB,xC,fR])|(go_at_call 5;refine(short_any A n C m _ HWf.out).mono ?_;unfold ShortP;rw[hme];rintro r1 w1 ⟨rfl,hb⟩;have H1':=H.below hb;clear H;have H:=H1';clear H1'))
 go_wp2_with fail
 try refine only_normal ?_
 refine beginL 5 (l0:=zz6) H (by kernel_rfl) ?_ (by kernel_rfl);intro H1;clear H;revert H1
 apply meet3
 ·intro rest H
  refine tC 0 28 rfl (by kernel_rfl) iQ (by(exact yields_row row25 rfl _ rfl _ _ rfl _ rfl (fun w h j v hj=>(h.lcell mm0 _).trans (Sub.all _ j v hj)))) H ?_;go_frame
  refine tC 1 29 rfl (by kernel_rfl) iQ (by(exact yields_row row25 rfl _ rfl _ _ rfl _ rfl (fun w h j v hj=>(h.lcell mm0 _).trans (Sub.all _ j v hj)))) H ?_;go_frame
  refine twoC (i:=2) (j:=3) (oi:=⟨some 11,_,_,_,_,_⟩) (oj:=⟨some 12,_,_,_,_,_⟩) rfl rfl (by kernel_rfl) (fun K hK=>?_) (fun K hK=>?_)
  ·refine step_Lal rfl (cfC cfZ svZ svZ) zero25 H rfl ?_;clear H;intro w1 b11 hlt1 hb1 H
   refine hK.out _ _ (fun _=>H.drop) ?_;clear hK K;go_frame
   refine o1C 3 12 (fun K hK=>?_)
   refine step_Lal rfl (cfC cfZ svZ svZ) zero25 H rfl ?_;clear H;intro w1 b12 hlt1 hb1 H
   refine hK.out _ _ (fun _=>H.drop.drop) ?_;clear hK K;go_frame
   exact rest w1 b11 b12 H
  ·refine step_Lal rfl (cfC cfZ svZ svZ) zero25 H rfl ?_;clear H;intro w1 b12 hlt1 hb1 H
   refine hK.out _ _ (fun _=>H.drop) ?_;clear hK K;go_frame
   refine o1C 2 11 (fun K hK=>?_)
   refine step_Lal rfl (cfC cfZ svZ svZ) zero25 H rfl ?_;clear H;intro w1 b11 hlt1 hb1 H
   refine hK.out _ _ (fun _=>H.drop.drop) ?_;clear hK K;go_frame
   replace H:=H.swap
   exact rest w1 b11 b12 H
 intro w1 b11 b12 H
 refine o1N 4 (fun K hK=>?_)
 refine step_LslI rfl cel25 1 _ _ _ H rfl _ _ rfl 0 rfl _ rfl rfl rfl (Nat.le_of_ble_eq_true rfl) (cfC f l t) rfl rfl ?_;intro w1 ho1 H1;try simp only[xB,xC]at H1;clear H;have H:=H1;clear H1
 refine hK.out _ _ (fun _=>H.drop.drop) ?_;clear hK K;go_frame
 refine o1N 5 (fun K hK=>?_)
 refine step_LslI rfl cel25 0 _ _ _ H rfl _ _ rfl 0 rfl _ rfl rfl rfl (Nat.le_of_ble_eq_true rfl) (cfC f l t) rfl rfl ?_;intro w1 ho1 H1;try simp only[xB,xC]at H1;clear H;have H:=H1;clear H1
 refine hK.out _ _ (aB rfl) ?_;clear hK K;go_frame
 refine dnC ?_ _
 go_wp2_with (first|((with_reducible refine gS 23 35 ?_);refine st_LslI rfl cel23 1 _ _ _ H rfl _ _ rfl 10 rfl (.slice kA q kC) rfl rfl rfl (Nat.le_of_ble_eq_true rfl) (cfC { f with tape:=tp } l ⟨kA,q,kC⟩) rfl rfl ?_;intro w1 ho1 H1;try simp only[xB,xC]at H1;clear H;have H:=H1;clear H1;try simp only[Act.put,xA,xB,xC,fR])|((with_reducible refine gS 4 36 ?_);refine st_LslI rfl cel4 1 _ _ _ H rfl _ _ rfl 9 rfl (.bool false) rfl rfl rfl (Nat.le_of_ble_eq_true rfl) (cfC { f with tape:=tp,tables:=false } l ⟨kA,q,kC⟩) rfl rfl ?_;intro w1 ho1 H1;try simp only[xB,xC]at H1;clear H;have H:=H1;clear H1;try simp only[Act.put,xA,xB,xC,fR])|((with_reducible refine gS 4 37 ?_);refine st_LslI rfl cel4 0 _ _ _ H rfl _ _ rfl 9 rfl (.bool true) rfl rfl rfl (Nat.le_of_ble_eq_true rfl) (cfC { f with tables:=true } l t) rfl rfl ?_;intro w1 ho1 H1;try simp only[xB,xC]at H1;clear H;have H:=H1;clear H1;try simp only[Act.put,xA,xB,xC,fR]))
 go_wp2_with fail
 refine beginL 18 (l0:=zz21) H (by kernel_rfl) ?_ (by kernel_rfl);clear H;intro H
 refine tC 0 38 rfl (by kernel_rfl) iQ (by(exact yields_row row25 rfl _ rfl _ _ rfl _ rfl (fun w h j v hj=>(h.lcell mm2 _).trans (Sub.all _ j v hj)))) H ?_;go_frame
 iterate 3 refine rP H ?_;go_frame
 refine tC 5 43 rfl (by kernel_rfl) iQ (by(exact yields_row row25 rfl _ rfl _ _ rfl _ rfl (fun w h j v hj=>(h.lcell mm1 _).trans (Sub.all _ j v hj)))) H ?_;go_frame
 iterate 3 refine rP H ?_;go_frame
 refine tC 10 48 rfl (by kernel_rfl) iQ (by(exact yields_row row25 rfl _ rfl _ _ rfl _ rfl (fun w h j v hj=>(h.lcell mm0 _).trans (Sub.all _ j v hj)))) H ?_;go_frame
 iterate 3 refine rP H ?_;go_frame
 refine reg6_start H (f1:=f) (f2:={ f with tape:=tp,tables:=false }) (f3:={ f with tables:=true }) (pr:=pr) (m:=me) (K:=(min (N:Int) 2000).toNat) ?rest6 (fun _ h=>h) ?rdy6 ⟨_,rfl,rfl,rfl,rfl⟩ ⟨_,rfl,rfl,rfl,rfl⟩ ⟨_,rfl,rfl,rfl,rfl⟩ ⟨_,rfl,rfl,rfl,rfl⟩ ⟨_,rfl,rfl,rfl,rfl⟩ ⟨_,rfl,rfl,rfl,rfl⟩ rfl rfl rfl rfl rfl rfl rfl rfl rfl rfl rfl rfl R1.out R2.out R3.out
 case rdy6=>
  intro d1 d2 d3 k hk hn
  obtain rfl|rfl|rfl|rfl:k=0∨k=1∨k=2∨k=3:=by omega
  all_goals(cases d1<;>cases d2<;>cases d3<;>first|exact absurd rfl hn|kernel_rfl)
 case rest6=>
  clear H
  rintro w9 b13 b14 b15 v1 v2 v3 ⟨H,C1,C2,C3⟩
  obtain⟨c1,s1,rfl,FC1,HR1⟩:=C1 (by decide)
  obtain⟨c2,s2,rfl,FC2,HR2⟩:=C2 (by decide)
  obtain⟨c3,s3,rfl,FC3,HR3⟩:=C3 (by decide)
  clear C1 C2 C3
  obtain⟨L0,hL0⟩:∃ L0,L0=(als true true true b13 b14 b15 [(b12,cfC { f with tables:=true } l t,25),(b11,cfC { f with tape:=tp,tables:=false } l ⟨kA,q,kC⟩,25),(b5,cfC f l t,25)]:List Lc):=⟨_,rfl⟩
  rw[← hL0]at H FC1 FC2 FC3
  have e0:L0=[(b13,coC coZ ssZ,42),(b14,coC coZ ssZ,42),(b15,coC coZ ssZ,42),(b12,cfC { f with tables:=true } l t,25),(b11,cfC { f with tape:=tp,tables:=false } l ⟨kA,q,kC⟩,25),(b5,cfC f l t,25)]:=hL0
  subst e0
  clear hL0
  try go_frame
  refine o1N 18 (fun K hK=>?_)
  refine step_LslI rfl cel42 0 _ _ _ H rfl _ _ rfl 0 rfl (.agg (coC c1 s1)) rfl (coC_size _ _) (coC_ones _ _) (by rw[coC_size];decide) (coC c1 s1) (putA_all _ _ ((coC_size _ _).trans (coC_size _ _).symm)) rfl ?_;intro w1 ho1 H1;try simp only[xB,xC]at H1
  have F1:=corOff FC1 ho1 ⟨_,List.mem_cons_self ..,rfl⟩;have F2:=corOff FC2 ho1 ⟨_,List.mem_cons_self ..,rfl⟩;have F3:=corOff FC3 ho1 ⟨_,List.mem_cons_self ..,rfl⟩;clear FC1 FC2 FC3 H ho1;have FC1:=F1;have FC2:=F2;have FC3:=F3;have H:=H1;clear F1 F2 F3 H1
  refine hK.out _ _ (aB rfl) ?_;clear hK K;go_frame
  refine o1N 19 (fun K hK=>?_)
  refine step_LslI rfl cel42 1 _ _ _ H rfl _ _ rfl 0 rfl (.agg (coC c2 s2)) rfl (coC_size _ _) (coC_ones _ _) (by rw[coC_size];decide) (coC c2 s2) (putA_all _ _ ((coC_size _ _).trans (coC_size _ _).symm)) rfl ?_;intro w1 ho1 H1;try simp only[xB,xC]at H1
  have F1:=corOff FC1 ho1 ⟨_,List.mem_cons_of_mem _ mm0,rfl⟩;have F2:=corOff FC2 ho1 ⟨_,List.mem_cons_of_mem _ mm0,rfl⟩;have F3:=corOff FC3 ho1 ⟨_,List.mem_cons_of_mem _ mm0,rfl⟩;clear FC1 FC2 FC3 H ho1;have FC1:=F1;have FC2:=F2;have FC3:=F3;have H:=H1;clear F1 F2 F3 H1
  refine hK.out _ _ (aB rfl) ?_;clear hK K;go_frame
  refine o1N 20 (fun K hK=>?_)
  refine step_LslI rfl cel42 2 _ _ _ H rfl _ _ rfl 0 rfl (.agg (coC c3 s3)) rfl (coC_size _ _) (coC_ones _ _) (by rw[coC_size];decide) (coC c3 s3) (putA_all _ _ ((coC_size _ _).trans (coC_size _ _).symm)) rfl ?_;intro w1 ho1 H1;try simp only[xB,xC]at H1
  have F1:=corOff FC1 ho1 ⟨_,List.mem_cons_of_mem _ mm1,rfl⟩;have F2:=corOff FC2 ho1 ⟨_,List.mem_cons_of_mem _ mm1,rfl⟩;have F3:=corOff FC3 ho1 ⟨_,List.mem_cons_of_mem _ mm1,rfl⟩;clear FC1 FC2 FC3 H ho1;have FC1:=F1;have FC2:=F2;have FC3:=F3;have H:=H1;clear F1 F2 F3 H1
  refine hK.out _ _ (aB rfl) ?_;clear hK K;go_frame
  refine dnC ?_ _
  have T1:=Lib.hid FC1.retired.sl
  have T2:=Lib.hid FC2.retired.sl
  have T3:=Lib.hid FC3.retired.sl
  clear FC1 FC2 FC3
  go_wp2_with (first|((with_reducible refine gD (Op.buildSlice 56 2 _) ?_);refine st_Lb2 rfl _ _ rfl rfl H _ _ slT56 rfl rfl rfl ?_;intro wS bS hbS HS;have U1:=Lib.hid (T1.out.below hbS);have U2:=Lib.hid (T2.out.below hbS);have U3:=Lib.hid (T3.out.below hbS);clear T1 T2 T3 hbS H;have H:=HS;clear HS;try simp only[Act.put,xA,xB,xC,fR])|((with_reducible refine gL 40 53 ?_);refine st_Lll1 rfl one40 H _ rfl _ 63 rfl _ 42 mm1 _ (coC_63 _ _) ?_;go_frame)|((with_reducible refine gL 40 55 ?_);refine st_Lll1 rfl one40 H _ rfl _ 63 rfl _ 42 mm2 _ (coC_63 _ _) ?_;go_frame))
  rename World=>wo
  have HO:=Lib.hid H
  have HN:=Lib.hid (Lo.start wo)
  clear H
  have H:=HN.out
  clear HN
  have hn1:=U1.out.few
  go_loopw [59] (fun i wr=>∃(j:Nat),j≤2∧i= .int .i64 (j:Int)∧Lo wo wr []) (fun i _=>2-(intOf i).toNat)
  case atStart=>exact⟨0,by decide,rfl,H⟩
  case round=>
   clear H
   obtain⟨j,hj,rfl,H⟩:=hrel
   by_cases hlt:j<2
   ·obtain⟨fx,x,A2,n2,C2,hcell,hTL,hRL⟩:∃(fx:Cf) (x:Co) (A2:Option Addr) (n2 C2:Nat),wo.cell? ⟨bS,j,none⟩=some (.slice A2 n2 C2)∧Sl stC 9 wo A2 n2 x.retired∧RunsTo (newCo fx pr me) (min (N:Int) 2000).toNat x:=by
     obtain rfl|rfl:j=0∨j=1:=by omega
     ·exact⟨_,c2,_,_,_,HO.out.lcell mm0 0,U2.out,HR2⟩
     ·exact⟨_,c3,_,_,_,HO.out.lcell mm0 1,U3.out,HR3⟩
    have HC:=Lib.hid hcell
    have TL:=Lib.hid hTL
    have RL:=Lib.hid hRL
    have hnx:=hTL.few
    obtain⟨M,hM,hM1,hM2⟩:∃ M:Nat,min (n2:Int) (s1.retired.n:Int)=(M:Int)∧M≤n2∧M≤s1.retired.n:=⟨min n2 s1.retired.n,by omega,by omega,by omega⟩
    clear hcell hTL hRL
    have H0:=Lib.hid H.bl
    have H1:=HO.out.below H.bl
    clear H
    have H:=H1
    clear H1
    go_wp2_with (first|((with_reducible refine gL 40 61 ?_);refine st_lone rfl one40 _ rfl _ rfl _ ((H0.out.cell (Nat.lt_of_lt_of_le (HO.out.lt mm0) (Nat.le_refl _))).trans HC.out) ?_;try simp only[Act.put,xA,xB,xC,fR])|((with_reducible refine gL 40 65 ?_);refine st_Lll1 rfl one40 H _ rfl _ 63 rfl _ 42 mm1 _ (coC_63 _ _) ?_;go_frame))
    go_loopw [69] (fun i w2=>∃(r:Nat),r≤M∧i= .int .i64 (r:Int)∧Lo wo w2 []) (fun i _=>M-(intOf i).toNat)
    case atStart=>exact⟨0,Nat.zero_le _,rfl,Lo.of_bl H0.out⟩
    case round=>
     clear H H0
     obtain⟨r,hr,rfl,H⟩:=hrel
     by_cases hrt:r<M
     ·obtain⟨g,off,y,e2,hg2,hy,hcy⟩:=TL.out.at_ (show r<n2 by omega)
      obtain⟨g1,off1,y1,e3,hg3,hy1,hcy1⟩:=U1.out.at_ (show r<s1.retired.n by omega)
      have e4:y=y1:=runs_same RL.out HR1 r y y1 hy hy1
      subst e4
      have HY:=Lib.hid hcy
      have HY1:=Lib.hid hcy1
      have HG:=Lib.hid hg2
      have HG1:=Lib.hid hg3
      clear hcy hcy1 hy hy1 hg2 hg3
      subst e2
      have hr1:(r:Int)<(n2:Int):=by omega
      have hr2:(r:Int)<(s1.retired.n:Int):=by omega
      have hr3:r<n2:=by omega
      have hr4:r<s1.retired.n:=by omega
      have HV:=Lib.hid (show wo.cell? ⟨b13,63,none⟩=some (.slice (some ⟨g1,off1,none⟩) s1.retired.n s1.retired.c)from(HO.out.lcell mm1 63).trans ((coC_63 _ _).trans (by rw[e3])))
      have HL:=Lib.hid (HO.out.lt mm1)
      clear e3
      go_wp2
      go_wp2_with fail
      refine beginL 9 (l0:=zz10) H (by kernel_rfl) ?_ (by kernel_rfl);clear H;intro H
      iterate 3 refine rP H ?_;go_frame
      refine tC 3 75 rfl (by kernel_rfl) iQ (by exact yields_row row58 rfl _ rfl g (off+r*9) rfl (stC y) rfl (fun w' h j v hv=>(h.bl.cell (p:=⟨g,_,none⟩) HG.out).trans (HY.out j v hv))) H ?_;go_frame
      refine tP 4 76 H ?_;go_frame
      refine tC 5 77 rfl (by kernel_rfl) iQ (by exact yields_one one40 rfl _ rfl _ rfl _ (fun w' h=>(h.bl.cell (p:=⟨b13,_,none⟩) HL.out).trans HV.out)) H ?_;go_frame
      iterate 2 refine rP H ?_;go_frame
      refine tC 8 80 rfl (by kernel_rfl) iQ (by exact yields_row row58 rfl _ rfl g1 (off1+r*9) rfl (stC y) rfl (fun w' h j v hv=>(h.bl.cell (p:=⟨g1,_,none⟩) HG1.out).trans (HY1.out j v hv))) H ?_;go_frame
      refine o1C 9 81 (fun K hK=>?_)
      refine step_v rfl (v:=?vr4_9) ?hyr4_9 ?restr4_9
      case hyr4_9=>(go_simp;try(with_reducible rfl))
      refine hK.out _ _ (aB rfl) ?_;clear hK K;go_frame
      refine dnC ?_ _
      go_wp2
      go_roundw
      all_goals first
       | exact⟨r+1,by omega,by go_num,H⟩|(simp[intOf];omega)
     ·have hrM:r=M:=by omega
      subst hrM
      go_wp2
      go_roundw
      all_goals first
       | exact⟨j+1,by omega,by go_num,H⟩|(simp[intOf];omega)
   ·have hjn:j=2:=by omega
    subst hjn
    have H0:=HO.out.below H.bl
    clear H
    have H:=H0
    clear H0
    go_wp2_with ((go_at_call 12;refine(alive_m w0 _ HT.out (HB.out.trans (H.bl.mono HB.out.size))).mono ?_;rintro r1 w1 ⟨rfl,hb⟩;have H1':=H.below hb;clear H;have H:=H1';clear H1'))
    go_ret
    exact⟨rfl,H.bl⟩
end Go.Proofs.YtdmhfogegfmnfaaGreatDoor
