/- Plain: what holds of a core holds behind the other parts of a cycle. No conditions. Plain: how far a cycle goes. No conditions. Contracts: reading an instruction's word, decoding, encoding. Condition: the table of codes reads as it is laid. Contracts: decoding, encoding. Condition: the table of codes reads as it is laid. Words for memory of numbers; a number brought into .. -/
import Derived.Test.YtdmhfogegfmnfaaGreatDoorG01
import Derived.Test.YtdmhfogegfmnfaaGreatDoorG02
import Derived.Test.YtdmhfogegfmnfaaGreatDoorG03
import Derived.Test.YtdmhfogegfmnfaaGreatDoorG05
import Derived.ProofKit
import Derived.OpenShut
import Derived.Handy
import Derived.Outline
import Derived.OwnWalk
import Derived.Laws.MakeOwn
import Derived.Laws.CopyOwn
import Derived.Laws.NewBlocks
import Derived.Laws.OwnMore
set_option maxRecDepth 100000
set_option maxHeartbeats 4000000
set_option linter.unusedVariables false
set_option linter.unusedSimpArgs false
namespace Go.Proofs.YtdmhfogegfmnfaaGreatDoor
open Go.RowKit
theorem eok_storeAt{n:Nat}{regs:List U}{l:List En}(h:∀ e∈l,EOk n e)(i:Nat):∀ e∈storeAt regs l i,EOk n e:=by
 unfold storeAt
 simp only
 split
 ·exact h
 ·rename_i hk
  split
  ·intro e he
   rcases List.mem_or_eq_of_mem_set he with q|q
   ·exact h e q
   ·rw[q]
    rcases Nat.lt_or_ge i l.length with c|c
    ·exact eok_store (h _ (getD_mem c _)) _
    ·rw[List.set_eq_of_length_le c]at he
     rw[q]at he
     exact h _ he
  ·exact h
theorem eok_stores{n:Nat}{regs:List U}:∀(is:List Nat) {l:List En},(∀ e∈l,EOk n e)→∀ e∈is.foldl (storeAt regs) l,EOk n e
 | [],l,h=>h
 | i::is,l,h=>eok_stores is (eok_storeAt h i)
theorem Inv.works{c:Co}(h:Inv c):Inv (worksC c):=by
 unfold worksC
 split
 ·exact h
 ·have hl:∀ e∈storesR c.regs (c.rob.map goE),EOk c.mem.length e:=by
   unfold storesR
   refine eok_stores _ fun e he=>?_
   obtain⟨x,hx,rfl⟩:=List.mem_map.1 he
   exact eok_go (h.rob x hx)
  simp only
  generalize storesR c.regs (c.rob.map goE)=l at hl
  split
  ·refine h.of rfl rfl rfl rfl (fun e he=>?_) h.sto
   have he':e∈cutR l (wrongI l 0).toNat:=he
   unfold cutR at he'
   rcases List.mem_append.1 he' with q|q
   ·exact hl e (List.mem_of_mem_take q)
   ·rw[List.mem_singleton.1 q]
    rcases Nat.lt_or_ge (wrongI l 0).toNat l.length with c'|c'
    ·exact eok_guess (hl _ (getD_mem c' _)) _
    ·rw[List.getD_eq_getElem?_getD,List.getElem?_eq_none c']
     exact fun hk=>absurd (show kd 0=3∨kd 0=4 from hk) (by decide)
  ·exact h.of rfl rfl rfl rfl hl h.sto
theorem told_parts{e:En}(h:(toldE e).halt=0):e.halt=0:=by
 unfold toldE at h
 split at h
 ·exact h
 ·rename_i q;simpa using q
theorem told_load{e:En}(h:e.halt=0)(hk:kd e.i.op=3):(toldE e).addr=e.addr:=by
 unfold toldE
 rw[if_neg (by omega)]
 simp only
 rw[if_neg (by omega),if_pos hk]
theorem told_store{e:En}{p:Pt}(h:e.halt=0)(hs:storedS (toldE e)=some p):kd e.i.op=4∧p.addr=e.addr∧p.data.length=(sz e.i.op).toNat:=by
 unfold toldE at hs
 rw[if_neg (by omega)]at hs
 simp only at hs
 by_cases hk:kd e.i.op=4
 ·rw[if_pos hk]at hs
  unfold storedS at hs
  simp only at hs
  split at hs
  ·cases hs
  ·cases hs
   refine⟨hk,rfl,?_⟩
   have:sz e.i.op≤4∧0≤sz e.i.op:=by
    unfold sz
    repeat' split
    all_goals omega
   simp only[bytesS]
   rw[if_neg (by omega)]
   simp[bytesL,byOf]
 ·exfalso
  rw[if_neg hk]at hs
  have:∀ s:St,s.store=false→storedS s=none:=fun s q=>by unfold storedS;rw[if_pos (.inl q)]
  repeat' split at hs
  all_goals(rw[this _ rfl]at hs;cases hs)
theorem sz_okAt{n:Nat}{a:U}{s:Int}(h:okAt n a s=true):((s.toNat:Nat):Int)=s:=by
 unfold okAt at h
 simp only[decide_eq_true_eq]at h
 omega
theorem Inv.retire{c:Co}(h:Inv c)(g:Gu):Inv (retire1 g c):=by
 unfold retire1
 split
 ·exact h
 ·split
  ·exact h
  ·rename_i e l hl
   have he:EOk c.mem.length e:=h.rob e (by rw[hl];exact List.mem_cons_self ..)
   have hrl:∀ x∈l,EOk c.mem.length x:=fun x hx=>h.rob x (by rw[hl];exact List.mem_cons_of_mem _ hx)
   split
   ·exact h
   ·rename_i his
    simp only
    split
    ·exact h.of rfl rfl rfl rfl (fun x hx=>by cases hx) h.sto
    ·rename_i hth
     have hh:e.halt=0:=told_parts (by simpa using hth)
     split
     ·exact h
     ·have hsto:∀ p∈c.stores++(storedS (toldE e)).toList,okAt c.mem.length p.addr p.data.length=true:=fun p hp=>by
       rcases List.mem_append.1 hp with q|q
       ·exact h.sto p q
       ·obtain⟨k1,k2,k3⟩:=told_store hh (Option.mem_toList.1 q)
        obtain⟨a,b⟩:=he (.inr k1)
        have hkn:=(b (by omega)).resolve_right (by omega)
        have:=a hkn
        rw[k2,k3,sz_okAt this]
        exact this
      have hb:Inv { c with retired:=c.retired++[toldE e],stores:=c.stores++(storedS (toldE e)).toList }:=h.of rfl rfl rfl rfl h.rob hsto
      split
      ·rename_i hk
       obtain⟨a,b⟩:=he (.inl hk)
       have hkn:=(b (by omega)).resolve_right (by omega)
       have hq:=hb.bring (line:=(toldE e).addr) (by rw[told_load hh hk];exact ln_of h.m16 (a hkn))
       exact hq.of rfl rfl rfl rfl hrl hq.sto
      ·exact hb.of rfl rfl rfl rfl hrl hb.sto
theorem Inv.retires{c c':Co}(h:Inv c)(hr:RetiresR c c'):Inv c':=by
 obtain⟨gs,_,rfl⟩:=hr
 generalize gs=gs
 revert h
 generalize c=x
 intro h
 induction gs generalizing x with
 | nil=>exact h
 | cons g gs ih=>exact ih _ (h.retire g)
theorem Inv.load{c:Co}(h:Inv c)(v:Bool)(i:Nat):Inv (load1 v c i):=by
 unfold load1
 simp only
 split
 ·exact h
 ·rename_i hk
  have hkn:(c.rob.getD i default).known=true:=by simpa using hk
  have hi:i<c.rob.length:=by
   rcases Nat.lt_or_ge i c.rob.length with q|q
   ·exact q
   ·rw[List.getD_eq_getElem?_getD,List.getElem?_eq_none q]at hkn
    cases hkn
  have he:=h.rob _ (getD_mem hi default)
  split
  ·exact h.setE i (eok_take he _)
  ·split
   ·exact h
   ·split
    ·exact h.setE i (eok_take he _)
    ·split
     ·exact h.setE i (eok_is2 he hkn)
     ·split
      ·exact(h.ask 1 _ (fun q=>absurd q (by decide)) (by decide)).setE i (eok_is2 he hkn)
      ·exact h
theorem Inv.start{c:Co}(h:Inv c)(v:Bool)(i:Nat)(hi:i<c.rob.length):Inv (start1 v c i):=by
 unfold start1
 simp only
 have he:=h.rob _ (getD_mem hi default)
 split
 ·exact h.setE i (eok_addr he _)
 ·split
  ·exact(h.setE i (eok_addr he _)).load v i
  ·exact h.setE i (eok_start he _ _)
theorem start_len(v:Bool)(c:Co)(i:Nat):(start1 v c i).rob.length=c.rob.length:=by
 unfold start1
 simp only
 split
 ·simp[setE]
 ·split
  ·unfold load1
   simp only
   repeat' split
   all_goals simp[setE,askC]
  ·simp[setE]
theorem Inv.startsF{c:Co}:∀(ps:List (Nat×Bool)) (x:Co),Inv x→x.rob.length=c.rob.length→(∀ p∈ps,p.1<c.rob.length)→Inv (ps.foldl (fun c p=>start1 p.2 c p.1) x)
 | [],x,h,_,_=>h
 | p::ps,x,h,hl,hp=>Inv.startsF ps _ (h.start p.2 p.1 (by rw[hl];exact hp p mm0)) ((start_len _ _ _).trans hl) (fun q hq=>hp q (List.mem_cons_of_mem _ hq))
theorem Inv.enter{c:Co}(h:Inv c):Inv (enter1 c):=by
 unfold enter1
 split
 ·exact h
 ·split
  ·exact h
  ·split
   ·exact h
   ·refine h.of rfl rfl rfl rfl (fun e he=>?_) h.sto
    rcases List.mem_append.1 (show e∈c.rob++[_]from he)with q|q
    ·exact h.rob e q
    ·rw[List.mem_singleton.1 q];exact eok_new _ _ _ _
theorem Inv.enters{c:Co}(h:Inv c):Inv (entersC c):=by
 unfold entersC
 generalize c.conf.width.toNat=k
 induction k generalizing c with
 | zero=>exact h
 | succ k ih=>exact ih h.enter
theorem Inv.fetch{c:Co}(h:Inv c)(u:U)(gd:Int):Inv (fetch1 u gd c):=by
 unfold fetch1
 simp only
 split
 ·exact h
 ·split
  ·exact h.of rfl rfl rfl rfl h.rob h.sto
  ·split
   ·split
    ·exact h.ask 2 _ (fun q=>absurd q (by decide)) (by decide)
    ·exact h
   ·obtain⟨q1,q2⟩:=h.wr.touch (lineU c.fetch)
    exact⟨h.m16,h.rc,h.ln,q1,fun y hy=>h.wd y ((q2 y).1 hy),h.bus,h.rob,h.sto⟩
theorem Inv.fetchF:∀(gs:List (U×Int)) (x:Co),Inv x→Inv (gs.foldl (fun c g=>fetch1 g.1 g.2 c) x)
 | [],x,h=>h
 | g::gs,x,h=>Inv.fetchF gs _ (h.fetch g.1 g.2)
theorem Inv.fetches{c c':Co}(h:Inv c)(hr:FetchesR c c'):Inv c':=by
 obtain⟨gs,_,rfl⟩:=hr
 exact Inv.fetchF gs c h
def dr1(c:Co):Co:={ c with stores:=(drainS c.stores c.data).1,data:=(drainS c.stores c.data).2.1 }
def dr2(c:Co)(ok:Bool):Co:=match c.stores with
 | []=>c
 | p::_=>if ok=false∧hasQ c.bus (lineU p.addr) 3=false∧roomC c true=true then askC c 3 (lineU p.addr) []else c
def dr3(c:Co):Co:=
 if c.stores≠[]∨c.halt=0 then c
 else
  let d:=dirtyC c.data
  if d.2=true∧d.1.data≠[]then { askC c 4 d.1.line d.1.data with data:=cleanC c.data d.1.line } else c
theorem dr_eq(c:Co):drainsC c=dr3 (dr2 (dr1 c) (drainS c.stores c.data).2.2):=rfl
theorem Inv.dr1{c:Co}(h:Inv c):Inv (dr1 c):=by
 unfold Go.Proofs.YtdmhfogegfmnfaaGreatDoor.dr1
 cases hs:c.stores with
 | nil=>exact h.of rfl rfl rfl rfl h.rob (fun p hp=>by cases hp)
 | cons p T=>
  have hT:∀ q∈T,okAt c.mem.length q.addr q.data.length=true:=fun q hq=>h.sto q (by rw[hs];exact List.mem_cons_of_mem _ hq)
  cases hw:(writeC c.data p.addr p.data).2 with
  | false=>
   have e:drainS (p::T) c.data=(p::T,c.data,false):=by unfold drainS;simp only;rw[if_neg (by rw[hw];simp)]
   rw[e]
   exact h.of rfl rfl rfl rfl h.rob (by rw[← hs];exact h.sto)
  | true=>
   have e:drainS (p::T) c.data=(T,(writeC c.data p.addr p.data).1,true):=by unfold drainS;simp only;rw[if_pos hw]
   rw[e]
   obtain⟨q1,q2⟩:=h.rc.write hw
   refine⟨h.m16,q1,fun y hy=>?_,h.wr,h.wd,h.bus,h.rob,hT⟩
   rcases q2 y hy with q|⟨r1,r2,z,r3,r4,r5⟩
   ·exact h.ln y q
   ·refine⟨by rw[← r4];exact(h.ln z r3).1,r2,fun q=>by rw[r1]at q;cases q⟩
theorem Inv.dr2{c1:Co}(h1:Inv c1)(ok:Bool):Inv (dr2 c1 ok):=by
 unfold Go.Proofs.YtdmhfogegfmnfaaGreatDoor.dr2
 split
 ·exact h1
 ·rename_i p T hs
  split
  ·exact h1.ask 3 _ (fun _=>ln_of h1.m16 (h1.sto p (by rw[hs];exact List.mem_cons_self ..))) (by decide)
  ·exact h1
theorem Inv.dr3{c2:Co}(h2:Inv c2):Inv (dr3 c2):=by
 unfold Go.Proofs.YtdmhfogegfmnfaaGreatDoor.dr3
 split
 ·exact h2
 ·simp only
  split
  ·rename_i hd
   obtain⟨d1,d2⟩:=h2.rc.dirty hd.1
   generalize (dirtyC c2.data).1=dy at d1 d2
   obtain⟨g1,g2,g3⟩:=h2.ln dy d1
   have hid:lineU dy.line=dy.line:=ln_id g1
   obtain⟨q1,q2⟩:=h2.rc.clean dy.line
   have hb:belowM (pushQ c2.bus 4 dy.line (latF c2.conf c2.asked) dy.data) c2.mem=overM (belowM c2.bus c2.mem) [⟨dy.line,dy.data⟩]:=by rw[below_push,if_pos rfl]
   refine⟨h2.m16,q1,fun y hy=>?_,h2.wr,h2.wd,fun r hr'=>?_,h2.rob,h2.sto⟩
   ·show _∧_∧(_→_=cutM (belowM (pushQ c2.bus 4 dy.line (latF c2.conf c2.asked) dy.data) c2.mem) y.line)
    rw[hb]
    rcases q2 y hy with⟨r1,r2⟩|⟨z,r1,r2,rfl⟩
    ·obtain⟨s1,s2,s3⟩:=h2.ln y r1
     refine⟨s1,s2,fun hdd=>?_⟩
     rw[cut_put_ne (by rw[below_len];exact s1) g1.1 g2 (by rw[← hid];exact r2)]
     exact s3 hdd
    ·have:z=dy:=h2.rc.uniq r1 d1 (by rw[r2,hid])
     subst this
     refine⟨g1,g2,fun _=>?_⟩
     exact(cut_put_eq (by rw[below_len];exact g1) g2).symm
   ·rcases List.mem_append.1 (show r∈c2.bus++[_]from hr')with q|q
    ·exact h2.bus r q
    ·rw[List.mem_singleton.1 q]
     exact⟨fun(q:(4:Int)=3)=>absurd q (by decide),fun _=>⟨g1,g2⟩⟩
  ·exact h2
theorem Inv.drains{c:Co}(h:Inv c):Inv (drainsC c):=by
 rw[dr_eq]
 exact(h.dr1.dr2 _).dr3
theorem bringQ_le(c:Ca)(q:List Rq)(m:By)(line:U)(left:Int):(bringQ c q m line left).2.1.length≤q.length+1:=by
 unfold bringQ
 split
 ·split
  ·simp only;omega
  ·simp only
   split
   ·simp[pushQ]
   ·simp only;omega
 ·simp only;omega
theorem stored_le{s:St}{p:Pt}(h:storedS s=some p):p.data.length≤4:=by
 unfold storedS at h
 split at h
 ·cases h
 ·cases h
  unfold bytesS
  split
  ·exact Nat.zero_le _
  ·simp only[bytesL,byOf,List.length_map,List.length_range];omega
structure Sz(a b:Co)(k:Nat):Prop where
 conf:b.conf=a.conf
 mem:b.mem.length=a.mem.length
 bus:b.bus.length≤a.bus.length+k
 retired:b.retired.length≤a.retired.length+k
 fetched:b.fetched.length≤a.fetched.length+k
 rob:b.rob.length≤a.rob.length+k
 stores:b.stores.length≤a.stores.length+k
 data:∀ p∈b.stores,p∈a.stores∨p.data.length≤4
theorem Sz.refl(a:Co):Sz a a 0:=⟨rfl,rfl,Nat.le_refl _,Nat.le_refl _,Nat.le_refl _,Nat.le_refl _,Nat.le_refl _,fun p h=>.inl h⟩
theorem Sz.trans{a b c:Co}{j k:Nat}(h:Sz a b j)(h2:Sz b c k):Sz a c (j+k):=
 ⟨h2.conf.trans h.conf,h2.mem.trans h.mem,by have:=h.bus;have:=h2.bus;omega,by have:=h.retired;have:=h2.retired;omega,by have:=h.fetched;have:=h2.fetched;omega,by have:=h.rob;have:=h2.rob;omega,by have:=h.stores;have:=h2.stores;omega,fun p hp=>by
  rcases h2.data p hp with q|q
  ·exact h.data p q
  ·exact .inr q⟩
theorem Sz.up{a b:Co}{j k:Nat}(h:Sz a b j)(hk:j≤k):Sz a b k:=⟨h.conf,h.mem,by have:=h.bus;omega,by have:=h.retired;omega,by have:=h.fetched;omega,by have:=h.rob;omega,by have:=h.stores;omega,h.data⟩
theorem Sz.ask(c:Co)(kind:Int)(line:U)(d:By):Sz c (askC c kind line d) 1:=⟨rfl,rfl,by simp[askC,pushQ],Nat.le_succ _,Nat.le_succ _,Nat.le_succ _,Nat.le_succ _,fun p h=>.inl h⟩
theorem Sz.setE(c:Co)(i:Nat)(e:En):Sz c (setE c i e) 0:=⟨rfl,rfl,Nat.le_refl _,Nat.le_refl _,Nat.le_refl _,by simp[Go.Proofs.YtdmhfogegfmnfaaGreatDoor.setE],Nat.le_refl _,fun p h=>.inl h⟩
theorem Sz.bring(c:Co)(line:U):Sz c (bringC c line) 1:=⟨rfl,rfl,bringQ_le _ _ _ _ _,Nat.le_succ _,Nat.le_succ _,Nat.le_succ _,Nat.le_succ _,fun p h=>.inl h⟩
theorem tick_le(q:List Rq):(tickQ q).1.length≤q.length:=by
 cases q with
 | nil=>exact Nat.le_refl _
 | cons r q=>
  unfold tickQ
  simp only
  by_cases h:0<wrap64 (r.left-1)
  ·rw[if_pos h];simp
  ·rw[if_neg h];simp
theorem Sz.ticks(c:Co):Sz c (ticksC c) 1:=by
 have hl:=tick_le c.bus
 have base:Sz c { c with bus:=(tickQ c.bus).1 } 0:=⟨rfl,rfl,hl,Nat.le_refl _,Nat.le_refl _,Nat.le_refl _,Nat.le_refl _,fun p h=>.inl h⟩
 unfold ticksC
 simp only
 split
 ·exact base.up (by decide)
 ·split
  ·exact⟨rfl,rfl,Nat.le_succ_of_le hl,Nat.le_succ _,Nat.le_succ _,by simp,Nat.le_succ _,fun p h=>.inl h⟩
  ·split
   ·exact⟨rfl,rfl,Nat.le_succ_of_le hl,Nat.le_succ _,Nat.le_succ _,Nat.le_succ _,Nat.le_succ _,fun p h=>.inl h⟩
   ·split
    ·exact(base.trans (Sz.bring _ _)).up (by decide)
    ·split
     ·exact⟨rfl,ov_len _ _,Nat.le_succ_of_le hl,Nat.le_succ _,Nat.le_succ _,Nat.le_succ _,Nat.le_succ _,fun p h=>.inl h⟩
     ·exact base.up (by decide)
theorem storeAt_le(regs:List U)(l:List En)(i:Nat):(storeAt regs l i).length=l.length:=by
 unfold storeAt
 simp only
 split
 ·rfl
 ·split<;>simp
theorem stores_le(regs:List U):∀(is:List Nat) (l:List En),(is.foldl (storeAt regs) l).length=l.length
 | [],l=>rfl
 | i::is,l=>(stores_le regs is _).trans (storeAt_le _ _ _)
theorem Sz.works(c:Co):Sz c (worksC c) 1:=by
 unfold worksC
 split
 ·exact(Sz.refl c).up (by decide)
 ·have hl:(storesR c.regs (c.rob.map goE)).length=c.rob.length:=by unfold storesR;rw[stores_le,List.length_map]
  simp only
  generalize storesR c.regs (c.rob.map goE)=l at hl
  split
  ·refine⟨rfl,rfl,Nat.le_succ _,Nat.le_succ _,Nat.zero_le _,?_,Nat.le_succ _,fun p h=>.inl h⟩
   show(cutR l (wrongI l 0).toNat).length≤_
   unfold cutR
   simp
   omega
  ·exact⟨rfl,rfl,Nat.le_succ _,Nat.le_succ _,Nat.le_succ _,by show l.length≤_;omega,Nat.le_succ _,fun p h=>.inl h⟩
theorem Sz.retire(c:Co)(g:Gu):Sz c (retire1 g c) 1:=by
 unfold retire1
 split
 ·exact(Sz.refl c).up (by decide)
 ·split
  ·exact(Sz.refl c).up (by decide)
  ·rename_i e l hl
   have hll:l.length≤c.rob.length+1:=by rw[hl,List.length_cons];omega
   split
   ·exact(Sz.refl c).up (by decide)
   ·simp only
    split
    ·exact⟨rfl,rfl,Nat.le_succ _,by simp,Nat.zero_le _,Nat.zero_le _,Nat.le_succ _,fun p h=>.inl h⟩
    ·split
     ·exact(Sz.refl c).up (by decide)
     ·have hd:∀ p∈c.stores++(storedS (toldE e)).toList,p∈c.stores∨p.data.length≤4:=fun p hp=>by
       rcases List.mem_append.1 hp with q|q
       ·exact .inl q
       ·exact .inr (stored_le (Option.mem_toList.1 q))
      have hsl:(c.stores++(storedS (toldE e)).toList).length≤c.stores.length+1:=by
       rw[List.length_append]
       have:(storedS (toldE e)).toList.length≤1:=by cases storedS (toldE e)<;>simp
       omega
      split
      ·exact⟨rfl,rfl,bringQ_le _ _ _ _ _,by simp[bringC],Nat.le_succ _,hll,hsl,hd⟩
      ·exact⟨rfl,rfl,Nat.le_succ _,by simp,Nat.le_succ _,hll,hsl,hd⟩
theorem Sz.retires{c c':Co}(hr:RetiresR c c'):Sz c c' c.conf.width.toNat:=by
 obtain⟨gs,hl,rfl⟩:=hr
 rw[← hl]
 clear hl
 suffices q:∀(gs:List Gu) (y:Co) (j:Nat),Sz c y j→Sz c (gs.foldl (fun c g=>retire1 g c) y) (j+gs.length) by
  have:=q gs c 0 (Sz.refl c)
  rwa [Nat.zero_add]at this
 intro gs
 induction gs with
 | nil=>intro y j h;exact h
 | cons g gs ih=>
  intro y j h
  have:=ih _ _ (h.trans (Sz.retire y g))
  rw[List.length_cons,show j+(gs.length+1)=j+1+gs.length by omega]
  exact this
theorem Sz.load(v:Bool)(c:Co)(i:Nat):Sz c (load1 v c i) 1:=by
 unfold load1
 simp only
 split
 ·exact(Sz.refl c).up (by decide)
 ·split
  ·exact(Sz.setE _ _ _).up (by decide)
  ·split
   ·exact(Sz.refl c).up (by decide)
   ·split
    ·exact(Sz.setE _ _ _).up (by decide)
    ·split
     ·exact(Sz.setE _ _ _).up (by decide)
     ·split
      ·exact(Sz.ask _ _ _ _).trans (Sz.setE _ _ _)
      ·exact(Sz.refl c).up (by decide)
theorem Sz.start(v:Bool)(c:Co)(i:Nat):Sz c (start1 v c i) 1:=by
 unfold start1
 simp only
 split
 ·exact(Sz.setE _ _ _).up (by decide)
 ·split
  ·exact((Sz.setE _ _ _).trans (Sz.load _ _ _)).up (by decide)
  ·exact(Sz.setE _ _ _).up (by decide)
theorem Sz.starts{c:Co}:∀(ps:List (Nat×Bool)) (y:Co) (j:Nat),Sz c y j→Sz c (ps.foldl (fun c p=>start1 p.2 c p.1) y) (j+ps.length)
 | [],y,j,h=>h
 | p::ps,y,j,h=>by
  have:=Sz.starts ps _ _ (h.trans (Sz.start p.2 y p.1))
  rw[List.length_cons,show j+(ps.length+1)=j+1+ps.length by omega]
  exact this
theorem Sz.enter(c:Co):Sz c (enter1 c) 1:=by
 unfold enter1
 split
 ·exact(Sz.refl c).up (by decide)
 ·split
  ·exact(Sz.refl c).up (by decide)
  ·rename_i f l hl
   split
   ·exact(Sz.refl c).up (by decide)
   ·exact⟨rfl,rfl,Nat.le_succ _,Nat.le_succ _,by rw[hl,List.length_cons];show l.length≤_;omega,by simp,Nat.le_succ _,fun p h=>.inl h⟩
theorem Sz.enters(c:Co):Sz c (entersC c) c.conf.width.toNat:=by
 unfold entersC
 suffices q:∀(k:Nat) (y:Co) (j:Nat),Sz c y j→Sz c (timesC enter1 k y) (j+k) by
  have:=q c.conf.width.toNat c 0 (Sz.refl c)
  rwa [Nat.zero_add]at this
 intro k
 induction k with
 | zero=>intro y j h;exact h
 | succ k ih=>
  intro y j h
  have:=ih _ _ (h.trans (Sz.enter y))
  rw[show j+(k+1)=j+1+k by omega]
  exact this
theorem Sz.fetch(u:U)(gd:Int)(c:Co):Sz c (fetch1 u gd c) 1:=by
 unfold fetch1
 simp only
 split
 ·exact(Sz.refl c).up (by decide)
 ·split
  ·exact⟨rfl,rfl,Nat.le_succ _,Nat.le_succ _,by simp,Nat.le_succ _,Nat.le_succ _,fun p h=>.inl h⟩
  ·split
   ·split
    ·exact Sz.ask _ _ _ _
    ·exact(Sz.refl c).up (by decide)
   ·exact⟨rfl,rfl,Nat.le_succ _,Nat.le_succ _,by simp,Nat.le_succ _,Nat.le_succ _,fun p h=>.inl h⟩
theorem Sz.fetches{c c':Co}(hr:FetchesR c c'):Sz c c' c.conf.width.toNat:=by
 obtain⟨gs,hl,rfl⟩:=hr
 rw[← hl]
 clear hl
 suffices q:∀(gs:List (U×Int)) (y:Co) (j:Nat),Sz c y j→Sz c (gs.foldl (fun c g=>fetch1 g.1 g.2 c) y) (j+gs.length) by
  have:=q gs c 0 (Sz.refl c)
  rwa [Nat.zero_add]at this
 intro gs
 induction gs with
 | nil=>intro y j h;exact h
 | cons g gs ih=>
  intro y j h
  have:=ih _ _ (h.trans (Sz.fetch g.1 g.2 y))
  rw[List.length_cons,show j+(gs.length+1)=j+1+gs.length by omega]
  exact this
theorem Sz.drains(c:Co):Sz c (drainsC c) 2:=by
 rw[dr_eq]
 have h1:Sz c (dr1 c) 0:=by
  unfold dr1
  cases hs:c.stores with
  | nil=>exact⟨rfl,rfl,Nat.le_refl _,Nat.le_refl _,Nat.le_refl _,Nat.le_refl _,Nat.zero_le _,fun p hp=>by cases hp⟩
  | cons p T=>
   unfold drainS
   simp only
   split
   ·exact⟨rfl,rfl,Nat.le_refl _,Nat.le_refl _,Nat.le_refl _,Nat.le_refl _,by rw[hs,List.length_cons];show T.length≤_;omega,fun q hq=>.inl (by rw[hs];exact List.mem_cons_of_mem _ hq)⟩
   ·exact⟨rfl,rfl,Nat.le_refl _,Nat.le_refl _,Nat.le_refl _,Nat.le_refl _,by rw[hs];exact Nat.le_refl _,fun q hq=>.inl (by rw[hs];exact hq)⟩
 have h2:∀ x ok,Sz x (dr2 x ok) 1:=fun x ok=>by
  unfold dr2
  split
  ·exact(Sz.refl x).up (by decide)
  ·split
   ·exact Sz.ask _ _ _ _
   ·exact(Sz.refl x).up (by decide)
 have h3:∀ x,Sz x (dr3 x) 1:=fun x=>by
  unfold dr3
  split
  ·exact(Sz.refl x).up (by decide)
  ·simp only
   split
   ·have q:=Sz.ask x 4 (dirtyC x.data).1.line (dirtyC x.data).1.data
    exact⟨q.conf,q.mem,q.bus,q.retired,q.fetched,q.rob,q.stores,q.data⟩
   ·exact(Sz.refl x).up (by decide)
 exact(h1.trans ((h2 _ _).trans (h3 _))).up (by decide)
theorem in_eq{a b:In}(h:a=b):Ending.returned (.agg (inC a))= .returned (.agg (inC b)):=by rw[h]
theorem ne3{f:Int}(q:(f != 3)=true):¬ f=3:=by simpa using q
theorem eq3{f:Int}(q:(f != 3)=false):f=3:=by simpa using q
theorem gath_snd(x:U):∀(L:List Sp) (v:U) (s:Int),(gath x L v s).2=s+(L.map (·.s)).sum
 | [],v,s=>by simp[gath]
 | y::L,v,s=>by rw[gath,gath_snd x L,List.map_cons,List.sum_cons];omega
theorem parts_sum(f:Int):0≤((parts f).map (·.s)).sum∧((parts f).map (·.s)).sum≤20:=by
 unfold parts
 repeat' split
 all_goals decide
theorem lowB_bd(f:Int):0≤lowB f∧lowB f≤12:=by
 unfold lowB
 split
 ·omega
 ·split<;>omega
theorem parts_32(f:Int):∀ y∈parts f,0≤y.s∧y.s≤32:=fun y hy=>by have:=parts_ok f y hy;omega
theorem read_any(op:Int)(x:U)(w:World):Calls Tryz.prog 125 #[.int .i64 op,.int .u32 x.v] w fun e w'=>e= .returned (.agg (inC (readI op x)))∧Below w.heap.size w w':=by
 have x0:=x.lo
 have x1:=x.hi
 obtain⟨f,hf⟩:∃ f,fm op=f:=⟨_,rfl⟩
 obtain⟨l0,l1⟩:=lowB_bd f
 obtain⟨G,hG⟩:∃ G,gath x (parts f) (U.of 0) 0=G:=⟨_,rfl⟩
 have g2:0≤G.2∧G.2≤20:=by rw[← hG,gath_snd];have:=parts_sum f;omega
 obtain⟨g0,g1⟩:=g2
 have b0:=G.1.lo
 have b1:=G.1.hi
 have e1:G.1.v*2 ^ (lowB f).toNat % 4294967296=(shlU G.1 (lowB f)).v:=rfl
 have f70:=(fieldU x 7 5).lo
 have f71:=(fieldU x 7 5).hi
 have f150:=(fieldU x 15 5).lo
 have f151:=(fieldU x 15 5).hi
 have f200:=(fieldU x 20 5).lo
 have f201:=(fieldU x 20 5).hi
 have R0:readI op x={ op:=op,rd:=if hd f then(fieldU x 7 5).v else 0,r1:=if h1 f then(fieldU x 15 5).v else 0,r2:=if h2 f then(fieldU x 20 5).v else 0,imm:=if f=3 then shlU G.1 (lowB f)else sextU (shlU G.1 (lowB f)) (G.2+lowB f) }:=by
  unfold readI;rw[hf];simp only[hG]
 have R:=Lib.hid R0
 have HF:=Lib.hid hf
 have HG:=Lib.hid hG
 clear R0 hf hG
 have F:=Lib.hid (fun w=>form_any op w)
 have N':=Lib.hid (fun w=>number_any f w)
 cases c1:hd f<;>cases c2:h1 f<;>cases c3:h2 f
 all_goals
  have C1:=Lib.hid c1
  have C2:=Lib.hid c2
  have C3:=Lib.hid c3
  clear c1 c2 c3
  go_enter Tryz.func125,Tryz.ntmps125
  go_wp2_with (first|((with_reducible refine gAl 83 ?_);refine alloc_row (inC inZ) zero83 rfl rfl ?_;try simp only[Act.put,xA,xB,xC,fR])|((with_reducible refine gD (Op.load 83 _) ?_);apply take_row row83 rfl _ rfl _ rfl (inC _) (inC_size _) (t:=83) (fr:=(0,0));(·(repeat(first|(refine heap_at _ _ _ ?_;(simp only[sZ]<;>omega))|(refine(more_heap' _ _ _ _ ?_).trans ?_;(simp only[sZ]<;>omega)))));try simp only[Act.put,xA,xB,xC,fR])|((with_reducible refine gD (Op.store 83 _ _) ?_);apply store_row row83 rfl _ _ rfl _ (inC _) rfl rfl (inC_size _) (inC_ones _) (t:=83) (old:=inC _) (h2:=inC_size _);(·(repeat(first|(refine heap_at _ _ _ ?_;(with_reducible rfl))|(refine(more_heap' _ _ _ _ ?_).trans ?_;(simp only[sZ]<;>omega))|(refine(heap_past _ _ _ ?_).trans ?_;(simp only[sZ]<;>omega)))));try simp only[Act.put,xA,xB,xC,fR];try simp (disch:=(first|with_reducible rfl|(simp only[sZ]<;>omega)|fail)) only[more_row,alloc_row_past,alloc_row_at,drew_row,drewN_row])|(go_at_call 107;refine(F.out _).mono ?_;rw[HF.out];rintro r w1 ⟨rfl,rfl⟩)|(go_at_call 106;refine(has_any f _).mono ?_;rw[C1.out,C2.out,C3.out];rintro r w1 ⟨rfl,rfl⟩)|(go_at_call 143;refine(field_any x _ _ _).mono ?_;rintro r w1 ⟨rfl,⟨k,rfl⟩⟩)|(go_at_call 126;refine(N'.out _).mono ?_;rintro r w1 ⟨A,C,rfl,hsl,hb⟩;have HSL:=Lib.hid hsl;clear hsl;obtain⟨os,k,rfl⟩:=more_of hb;clear hb)|(go_at_call 144;refine(gather_any x _ _ _ _ _ HSL.out (parts_32 f)).mono ?_;unfold GatP;rw[HG.out];rintro r w1 ⟨rfl,hb⟩;obtain⟨os2,k2,rfl⟩:=more_of hb;clear hb)|(go_at_call 109;refine(sext_any _ _ _).mono ?_;rintro r w1 ⟨rfl,rfl⟩))
  all_goals
   (apply ret_row row83 rfl _ (inC _) rfl (inC_size _) (t:=83) (fr:=(0,0)) (hd:=rfl);(·(repeat(first|(refine heap_at _ _ _ ?_;(with_reducible rfl))|(refine(more_heap' _ _ _ _ ?_).trans ?_;(simp only[sZ]<;>omega))|(refine(heap_past _ _ _ ?_).trans ?_;(simp only[sZ]<;>omega))))))
   refine⟨in_eq ?_,?_⟩
   ·rw[R.out,C1.out,C2.out,C3.out]
    first|(rw[if_neg (ne3 (f:=f) (by assumption))];rfl)|(rw[if_pos (eq3 (f:=f) (by assumption))];rfl)
   ·(repeat(first|exact Below.refl _ _|(refine Below.alloc ?_ ?_ _;rotate_left;(first|omega|(simp only[sZ]<;>omega)))|(refine bl_more ?_ ?_ _ _;rotate_left;(simp only[sZ]<;>omega))))
theorem ret_row_tmp{a:Act}{w:World}{fn:Func}{R:Ending→World→Prop}{p q:Tmp}{T n:Nat}(hT:IsRow T n)(hr:fn.results=#[.cell p T,.tmp q])(g:Nat)(cs:Array Value)(hp:a.tmps.getD p undef= .pointer (some ⟨g,0,none⟩))(hs:cs.size=n)
 {t:TypeId} {fr:Nat×Nat} (hg:w.heap[g]?=some (.cells cs t fr)) (hd:a.defers=[]) (h:R (.returned (.tuple #[.agg cs,a.tmps.getD q undef])) w):bodyPost Tryz.prog fn R .ret a w:=by
 refine bodyPost_ret (v:=.tuple #[.agg cs,a.tmps.getD q undef]) ?_ hd h
 have hp':a.tmps[p]?.getD undef= .pointer (some ⟨g,0,none⟩):=by simpa using hp
 simp[results,hr,hp',asAddr,load_row hT g cs hs hg]
def TabC(w:World):Prop:=0<w.heap.size∧∀ j,j<49→w.cell? ⟨0,j,none⟩=some (.int .u32 (codes.getD j 0))
theorem TabC.below{w w':World}(h:TabC w)(hb:Below w.heap.size w w'):TabC w':=⟨Nat.lt_of_lt_of_le h.1 hb.size,fun j hj=>by rw[hb.cell (p:=⟨0,j,none⟩) h.1];exact h.2 j hj⟩
theorem dec_step(x:U)(n:Nat)(op:Int)(h:andU x (fixU (fm op))≠codeU op)(r:In×Int)(e:decFrom x (n+1) op=r):decFrom x n (op+1)=r:=by
 have q:decFrom x (n+1) op=if andU x (fixU (fm op))=codeU op then(readI op x,0)else decFrom x n (op+1):=rfl
 rw[← e,q,if_neg h]
theorem dec_hit(x:U)(n:Nat)(op:Int)(h:andU x (fixU (fm op))=codeU op)(r:In×Int)(e:decFrom x (n+1) op=r):r=(readI op x,0):=by
 rw[← e];unfold decFrom;rw[if_pos h]
theorem dec_next(x:U)(k:Nat)(r:In×Int)(hq:andU x (fixU (fm ((k:Int)+1)))≠codeU ((k:Int)+1))(hg:decFrom x (48-k) ((k:Int)+1)=r)(h:k<48):decFrom x (48-(k+1)) (((k+1:Nat):Int)+1)=r:=by
 rw[show 48-k=48-(k+1)+1 by omega]at hg
 have:=dec_step x _ _ hq r hg
 rw[show(((k+1:Nat):Int)+1)=(k:Int)+1+1 by omega]
 exact this
theorem code_v(j:Nat)(h:j<49):(codeU (j:Int)).v=codes.getD j 0:=by
 have:∀ j:Nat,j<49→(codeU (j:Int)).v=codes.getD j 0:=by decide +kernel
 exact this j h
theorem ret_dec{x:U}{i:In}{z:Int}(h:dec x=(i,z)):Ending.returned (.tuple #[.agg (inC i),.int .i64 z])= .returned (.tuple #[.agg (inC (dec x).1),.int .i64 (dec x).2]):=by rw[h]
def DecP(x:U)(w:World)(e:Ending)(w':World):Prop:=e= .returned (.tuple #[.agg (inC (dec x).1),.int .i64 (dec x).2])∧Below w.heap.size w w'
theorem decode_any(x:U)(w:World)(hT:TabC w):Calls Tryz.prog 99 #[.int .u32 x.v] w (DecP x w):=by
 have x0:=x.lo
 have x1:=x.hi
 have HT:=Lib.hid hT
 clear hT
 go_enter Tryz.func99,Tryz.ntmps99
 go_wp2_with (((with_reducible refine gAl 83 ?_);refine alloc_row (inC inZ) zero83 rfl rfl ?_;try simp only[Act.put,xA,xB,xC,fR]))
 go_loopw [4] (fun i wr=>∃(k:Nat),k≤48∧i= .int .i64 ((k:Int)+1)∧Hid (decFrom x (48-k) ((k:Int)+1)=dec x)∧∃ os kk,wr=more (w.alloc (.cells (inC inZ) 83)) os kk) (fun i _=>49-(intOf i).toNat)
 case atStart=>exact⟨0,by omega,rfl,rfl,#[],w.drawn,by simp[more];rfl⟩
 case round=>
  obtain⟨k,hk,rfl,HG,os,kk,rfl⟩:=hrel
  by_cases hlt:k<48
  ·have hB:Below w.heap.size w (more (w.alloc (.cells (inC inZ) 83)) os kk):=by(repeat(first|exact Below.refl _ _|(refine Below.alloc ?_ ?_ _;rotate_left;(omega))|(refine bl_more ?_ ?_ _ _;rotate_left;(simp only[sZ]<;>omega))))
   have hc0:=(HT.out.below hB).2 (k+1) (by omega)
   rw[← code_v (k+1) (by omega)]at hc0
   have hc:(more (w.alloc (.cells (inC inZ) 83)) os kk).cell? ⟨0,k+1,none⟩=some (.int .u32 (codeU ((k:Int)+1)).v):=by
    rw[hc0];rw[show((k+1:Nat):Int)=(k:Int)+1 by omega]
   have hsz:0<w.heap.size:=HT.out.1
   clear hc0 hB
   have E:=Lib.hid (show 48-k=48-(k+1)+1 by omega)
   have f0:=(fixU (fm ((k:Int)+1))).lo
   have f1:=(fixU (fm ((k:Int)+1))).hi
   by_cases hq:andU x (fixU (fm ((k:Int)+1)))=codeU ((k:Int)+1)
   ·have hb:(bits .and .u32 x.v (fixU (fm ((k:Int)+1))).v==(codeU ((k:Int)+1)).v)=true:=by
     rw[beq_iff_eq,← hq];rfl
    have HQ:=Lib.hid hq
    clear hq
    go_wp2_with fail
    go_quiet ((first|(go_at_call 107;exact Calls.quiet_of_same ((form_any _ _).mono fun _ _ h=>⟨h.1,h.2.symm⟩))|(go_at_call 124;exact Calls.quiet_of_same ((fixed_any _ _).mono fun _ _ h=>⟨h.1,h.2.symm⟩))))
    go_wp2_with (first|((with_reducible refine gD (Op.store 83 _ _) ?_);apply store_row row83 rfl _ _ rfl _ (inC _) rfl rfl (inC_size _) (inC_ones _) (t:=83) (old:=inC _) (h2:=inC_size _);(·(repeat(first|(refine heap_at _ _ _ ?_;(with_reducible rfl))|(refine(more_heap' _ _ _ _ ?_).trans ?_;(simp only[sZ]<;>omega)))));try simp only[Act.put,xA,xB,xC,fR];try simp (disch:=(first|with_reducible rfl|(simp only[sZ]<;>omega)|fail)) only[more_row,alloc_row_past,alloc_row_at,drew_row,drewN_row])|(go_at_call 125;refine(read_any _ _ _).mono ?_;rintro r w1 ⟨rfl,hb⟩;obtain⟨ow,kw,rfl⟩:=more_of hb;clear hb))
    apply ret_row_tmp row83 rfl _ (inC _) rfl (inC_size _) (t:=83) (fr:=(0,0)) (hd:=rfl)
    ·(repeat(first|(refine heap_at _ _ _ ?_;(with_reducible rfl))|(refine(more_heap' _ _ _ _ ?_).trans ?_;(simp only[sZ]<;>omega))))
    refine⟨?_,?_⟩
    ·have e1:decFrom x (48-(k+1)+1) ((k:Int)+1)=dec x:=by
      have:=HG.out
      rw[E.out]at this
      exact this
     have e2:=dec_hit x (48-(k+1)) ((k:Int)+1) HQ.out (dec x) e1
     exact ret_dec e2
    ·(repeat(first|exact Below.refl _ _|(refine Below.alloc ?_ ?_ _;rotate_left;(omega))|(refine bl_more ?_ ?_ _ _;rotate_left;(simp only[sZ]<;>omega))))
   ·have hb:(bits .and .u32 x.v (fixU (fm ((k:Int)+1))).v==(codeU ((k:Int)+1)).v)=false:=by
     rw[beq_eq_false_iff_ne];exact fun e=>hq (U.eq_of e)
    have HQ:=Lib.hid hq
    clear hq
    go_wp2_with fail
    go_quiet ((first|(go_at_call 107;exact Calls.quiet_of_same ((form_any _ _).mono fun _ _ h=>⟨h.1,h.2.symm⟩))|(go_at_call 124;exact Calls.quiet_of_same ((fixed_any _ _).mono fun _ _ h=>⟨h.1,h.2.symm⟩))))
    go_wp2_with fail
    go_roundw
    case rel=>exact⟨k+1,by omega,by go_num,dec_next x k (dec x) HQ.out HG.out hlt,os,_,(more_drewN _ _ _ _)⟩
    case measure=>simp[intOf];omega
  ·have hk':k=48:=by omega
   subst hk'
   go_wp2_with fail
   apply ret_row_tmp row83 rfl _ (inC inZ) rfl (inC_size _) (t:=83) (fr:=(0,0)) (hd:=rfl)
   ·(repeat(first|(refine heap_at _ _ _ ?_;(with_reducible rfl))|(refine(more_heap' _ _ _ _ ?_).trans ?_;(simp only[sZ]<;>omega))))
   refine⟨?_,?_⟩
   ·exact ret_dec HG.out.symm
   ·(repeat(first|exact Below.refl _ _|(refine Below.alloc ?_ ?_ _;rotate_left;(omega))|(refine bl_more ?_ ?_ _ _;rotate_left;(simp only[sZ]<;>omega))))
end Go.Proofs.YtdmhfogegfmnfaaGreatDoor
namespace Go.Proofs.YtdmhfogegfmnfaaGreatDoor.Cnf
open Go.ChangeShapes Go.WideShapes Go.ChangeAt Go.RowKit
theorem ret_bl{a b:Bool}(h:a=b):Ending.returned (.bool a)= .returned (.bool b):=by rw[h]
theorem ret_u32{a b:Int}(h:a=b):Ending.returned (.int .u32 a)= .returned (.int .u32 b):=by rw[h]
theorem ret_i64{a b:Int}(h:a=b):Ending.returned (.int .i64 a)= .returned (.int .i64 b):=by rw[h]
theorem bring_any(a:Addr)(n lo hi:Int)(w:World)(h:lo≤hi)(hc:w.cell? a=some (.int .i64 n))(hf:w.frozen? a=false):
 Calls Tryz.prog 34 #[.pointer (some a),.int .i64 lo,.int .i64 hi] w fun e w'=>e= .returned (.tuple #[])∧w.setCell a (.int .i64 (cl lo hi n))=w':=by
 rcases Int.lt_or_le n lo with c|c
 ·rw[cl_lo c]
  go_enter Tryz.func34,Tryz.ntmps34
  go_wp2
  go_end0
  exact⟨rfl,rfl⟩
 ·rcases Int.lt_or_le hi n with d|d
  ·rw[cl_hi c d]
   go_enter Tryz.func34,Tryz.ntmps34
   go_wp2
   go_end0
   exact⟨rfl,rfl⟩
  ·rw[cl_in c d]
   go_enter Tryz.func34,Tryz.ntmps34
   go_wp2
   go_end0
   exact⟨rfl,rfl⟩
theorem within_any(n lo hi:Int)(w:World):
 Calls Tryz.prog 76 #[.int .i64 n,.int .i64 lo,.int .i64 hi] w fun e w'=>e= .returned (.bool (wi lo hi n))∧w=w':=by
 go_enter Tryz.func76,Tryz.ntmps76
 go_wp2
 all_goals go_ret
 all_goals exact⟨ret_bl (by unfold wi;simp[*]<;>omega),rfl⟩
def Sl(w:World)(k:IntKind)(A:Option Addr)(L:List Int):Prop:=
 0<L.length→∃ b off,A=some ⟨b,off,none⟩∧b<w.heap.size∧∀ j,j<L.length→w.cell? ⟨b,off+j,none⟩=some (.int k (L.getD j 0))
theorem Sl.below{w w':World}{k:IntKind}{A:Option Addr}{L:List Int}(h:Sl w k A L)(hb:Below w.heap.size w w'):Sl w' k A L:=fun hn=>by
 obtain⟨b,off,rfl,hlt,hc⟩:=h hn
 exact⟨b,off,rfl,Nat.lt_of_lt_of_le hlt hb.size,fun j hj=>(hb.cell (p:=⟨b,off+j,none⟩) hlt).trans (hc j hj)⟩
theorem Sl.alloc{w:World}{k:IntKind}{A:Option Addr}{L:List Int}(h:Sl w k A L)(o:Obj):Sl (w.alloc o) k A L:=
 h.below ((Below.refl _ _).alloc (Nat.le_refl _) o)
theorem Sl.take{w:World}{k:IntKind}{A:Option Addr}{L:List Int}(h:Sl w k A L)(n:Nat):Sl w k A (L.take n):=fun hn=>by
 have hl:(L.take n).length≤L.length:=by simp;omega
 obtain⟨b,off,rfl,hlt,hc⟩:=h (by omega)
 refine⟨b,off,rfl,hlt,fun j hj=>?_⟩
 rw[hc j (by omega)]
 have:j<n:=by simp at hj;omega
 simp[List.getD_eq_getElem?_getD,this]
theorem Sl.none_(w:World)(k:IntKind)(A:Option Addr):Sl w k A []:=fun h=>absurd h (by decide)
def ar(k:IntKind)(L:List Int):Array Value:=(L.map (Value.int k)).toArray
theorem Sl.fresh(w:World)(k:IntKind)(L:List Int)(t:TypeId):Sl (w.alloc (.cells (ar k L) t)) k (some ⟨w.heap.size,0,none⟩) L:=fun hn=>
 ⟨w.heap.size,0,rfl,by show _<(Array.push _ _).size;simp,fun j hj=>by
  rw[World.cell?_alloc_at _ _ _ _ rfl]
  simp[ar,List.getD_eq_getElem?_getD,hj]⟩
theorem Sl.fresh_at{w:World}{k:IntKind}{L:List Int}{t:TypeId}{g:Nat}(hg:g=w.heap.size):Sl (w.alloc (.cells (ar k L) t)) k (some ⟨g,0,none⟩) L:=by
 subst hg;exact Sl.fresh w k L t
theorem take_min(L:List Int)(n k:Nat)(h:L.length=n)(hk:k=Nat.min n 64):L.take 64=L.take k:=by
 have:Nat.min n 64=min n 64:=rfl
 rcases Nat.lt_or_ge 64 n with c|c
 ·rw[show k=64 by omega]
 ·rw[show k=n by omega,List.take_of_length_le (by omega),List.take_of_length_le (by omega)]
theorem setRow_new(w:World)(cur cs:Array Value)(t:TypeId):(w.alloc (.cells cur t)).setRow w.heap.size cs=w.alloc (.cells cs t):=by
 unfold World.setRow World.alloc
 congr 1
 apply Array.ext_getElem?
 intro i
 rw[Array.getElem?_modify,Array.getElem?_push,Array.getElem?_push]
 by_cases h:i=w.heap.size
 ·subst h;simp
 ·rw[if_neg (fun e=>h e.symm),if_neg h,if_neg h]
theorem copy_made{P:Program}{W:World}{ops:Array Oper}{rest:List Oper}{o:Oper}{a:Act}{Q:Exit→Act→World→Prop}(hgd:o.guard=none)(d s:Operand)(dT sT:TypeId)
 (ho:o.op= .call { callee:=.builtin .copy,args:=#[d,s],argTypes:=#[dT,sT] }) (elem:TypeId) (hu:P.underlying dT=some (.slice elem)) (hsz:(P.info? elem).map (·.size)=some 1)
 (k:IntKind) (A:Option Addr) (L:List Int) (n C N g:Nat) (hg:g=W.heap.size) (hN:N=Nat.min n N) (hl:L.length=n) (hd:a.eval d= .slice (some ⟨g,0,none⟩) N N) (hs:a.eval s= .slice A n C) (hL:Sl W k A L)
 (h:wpList P ops Q rest (a.put o.dst (goInt N)) (W.alloc (.cells (ar k (L.take N)) elem))):
 wpList P ops Q (o::rest) a (W.alloc (.cells (madeCells #[Value.int k 0] N) elem)):=by
 subst hg
 have hNn:N≤n:=by rw[hN];exact Nat.min_le_left _ _
 by_cases h0:N=0
 ·subst h0
  refine wpList_copy_nothing hgd d s dT sT ho elem hu hsz _ _ _ _ _ _ hd hs (by simp) ?_
  have:madeCells #[Value.int k 0] 0=ar k (L.take 0):=by simp[madeCells,ar]
  rw[this];exact h
 ·obtain⟨b,off,rfl,hlt,hc⟩:=hL (by omega)
  have hlen:((L.take N).map (Value.int k)).length=N:=by simp;omega
  refine wpList_copy_own hgd d s dT sT ho elem hu hsz W.heap.size 0 N N ⟨b,off,none⟩ n C hd hs (madeCells #[Value.int k 0] N) elem (heap_alloc_new W _) ((L.take N).map (Value.int k)) (by rw[hlen];exact hN) ?_ (by rw[size_madeCells];omega) ?_ ?_
  ·intro j v hv
   have hj:j<N:=by have:=(List.getElem?_eq_some_iff.1 hv).1;omega
   have hadd:(⟨b,off,none⟩:Addr).add j=⟨b,off+j,none⟩:=by unfold Addr.add;split<;>simp_all
   rw[hadd,World.cell?_alloc_lt _ _ _ hlt,hc j (by omega),← hv]
   have:j<L.length:=by omega
   simp[hj,this]
  ·intro v hv
   rw[List.mem_map]at hv
   obtain⟨x,_,rfl⟩:=hv
   rfl
  ·have e:((madeCells #[Value.int k 0] N).toList.take 0++((L.take N).map (Value.int k)++(madeCells #[Value.int k 0] N).toList.drop (0+((L.take N).map (Value.int k)).length))).toArray=((L.take N).map (Value.int k)).toArray:=by
    rw[hlen,Nat.zero_add,List.drop_eq_nil_of_le (by simp[size_madeCells])];simp
   rw[e,setRow_new,hlen]
   exact h
def mix(lo hi:Int)(M:List Int)(k:Nat):List Int:=(M.take k).map (cl lo hi)++M.drop k
theorem mix_zero(lo hi:Int)(M:List Int):mix lo hi M 0=M:=by simp[mix]
theorem mix_all(lo hi:Int)(M:List Int):mix lo hi M M.length=M.map (cl lo hi):=by simp[mix]
theorem mix_at(lo hi:Int)(M:List Int)(k:Nat)(h:k<M.length):(ar .i64 (mix lo hi M k))[k]?=some (.int .i64 (M.getD k 0)):=by
 have hk:min k M.length=k:=by omega
 simp[ar,mix,List.getElem?_append,hk,List.getD_eq_getElem?_getD,h]
theorem mix_set(lo hi:Int)(M:List Int)(k:Nat)(h:k<M.length):(ar .i64 (mix lo hi M k)).setIfInBounds k (.int .i64 (cl lo hi (M.getD k 0)))=ar .i64 (mix lo hi M (k+1)):=by
 have hk:min k M.length=k:=by omega
 have e1:M.take (k+1)=M.take k++[M.getD k 0]:=by
  rw[List.take_succ_eq_append_getElem h];simp[List.getD_eq_getElem?_getD,h]
 have e2:M.drop k=M.getD k 0::M.drop (k+1):=by
  rw[List.drop_eq_getElem_cons h];simp[List.getD_eq_getElem?_getD,h]
 unfold ar mix
 rw[e1,e2]
 simp[hk]
theorem mk22(N:Nat)(h:N≤100)(W:World):(Instr.makeSlice 22 (.int .i64 (N:Int)) (.int .i64 (N:Int))).run Tryz.prog W= .ok (.slice (some ⟨W.heap.size,0,none⟩) N N) (W.alloc (.cells (madeCells #[Value.int .i64 0] N) 3)):=by
 obtain⟨i0,hi,hz0,hz1,hz2⟩:=info_parts (show(Tryz.prog.info? 3).map (fun i=>(i.zero,i.size,i.bytes))=some (some (.int .i64 0),1,8) by kernel_rfl)
 have:=run_make (P:=Tryz.prog) W 22 3 i0 (.int .i64 0) Tryz.underlying22 hi hz0 .i64 .i64 N N (by omega) (by omega) (by rw[hz2];omega) (by omega)
 rw[this,hz1,Int.toNat_natCast,Nat.mul_one]
 rfl
theorem mk23(N:Nat)(h:N≤100)(W:World):(Instr.makeSlice 23 (.int .i64 (N:Int)) (.int .i64 (N:Int))).run Tryz.prog W= .ok (.slice (some ⟨W.heap.size,0,none⟩) N N) (W.alloc (.cells (madeCells #[Value.int .u32 0] N) 28)):=by
 obtain⟨i0,hi,hz0,hz1,hz2⟩:=info_parts (show(Tryz.prog.info? 28).map (fun i=>(i.zero,i.size,i.bytes))=some (some (.int .u32 0),1,4) by kernel_rfl)
 have:=run_make (P:=Tryz.prog) W 23 28 i0 (.int .u32 0) Tryz.underlying23 hi hz0 .i64 .i64 N N (by omega) (by omega) (by rw[hz2];omega) (by omega)
 rw[this,hz1,Int.toNat_natCast,Nat.mul_one]
 rfl
end Go.Proofs.YtdmhfogegfmnfaaGreatDoor.Cnf
namespace Go.Proofs.YtdmhfogegfmnfaaGreatDoor.Cnf
open Go.ChangeShapes Go.WideShapes Go.ChangeAt Go.RowKit
def cs(se:Int):Int:=if cl 1 4 se=3 then 2 else cl 1 4 se
def CleanPost(m wd ro qu st sl se wa:Int)(tb:Bool)(L T:List Int)(w:World)(e:Ending)(w':World):Prop:=
 ∃(g g2:Nat),e= .returned (.agg #[.int .i64 (cl 0 2 m),.int .i64 (cl 1 2 wd),.int .i64 (cl 2 8 ro),.int .i64 (cl 1 4 qu),.int .i64 (cl 1 4 st),.int .i64 (cl 2 6 sl),.int .i64 (cs se),.int .i64 (cl 1 2 wa),.slice (some ⟨g,0,none⟩) (Nat.min L.length 64) (Nat.min L.length 64),.bool tb,.slice (some ⟨g2,0,none⟩) (Nat.min T.length 64) (Nat.min T.length 64)])∧
  Sl w' .i64 (some ⟨g,0,none⟩) ((L.take 64).map (cl 1 8))∧Sl w' .u32 (some ⟨g2,0,none⟩) (T.take 64)∧Below w.heap.size w w'∧w.heap.size≤g∧w.heap.size≤g2
theorem clean_x(m wd ro qu st sl se wa:Int)(A A2:Option Addr)(n C n2 C2:Nat)(L T:List Int)(tb:Bool)(w:World)(hn:L.length=n)(h2:T.length=n2)(bn:n≤9223372036854775807)(b2:n2≤9223372036854775807)
 (hL:Sl w .i64 A L) (hT:Sl w .u32 A2 T) (se':Int) (hz:(cl 1 4 se== 3)=false):
 Calls Tryz.prog 14 #[.agg #[.int .i64 m,.int .i64 wd,.int .i64 ro,.int .i64 qu,.int .i64 st,.int .i64 sl,.int .i64 se,.int .i64 wa,.slice A n C,.bool tb,.slice A2 n2 C2]] w (CleanPost m wd ro qu st sl se wa tb L T w):=by
 obtain⟨N,hN⟩:∃ N:Nat,N=Nat.min n 64:=⟨_,rfl⟩
 obtain⟨N2,hN2⟩:∃ N:Nat,N=Nat.min n2 64:=⟨_,rfl⟩
 have e1:(if(64:Int)<(n:Int)then(64:Int)else(n:Int))=(N:Int):=by
  have:Nat.min n 64=min n 64:=rfl
  split<;>omega
 have e2:(if(64:Int)<(n2:Int)then(64:Int)else(n2:Int))=(N2:Int):=by
  have:Nat.min n2 64=min n2 64:=rfl
  split<;>omega
 have c1:N=Nat.min n N:=by
  have:Nat.min n 64=min n 64:=rfl
  have:Nat.min n N=min n N:=rfl
  omega
 have c2:N2=Nat.min n2 N2:=by
  have:Nat.min n2 64=min n2 64:=rfl
  have:Nat.min n2 N2=min n2 N2:=rfl
  omega
 have d1:N≤64:=by have:Nat.min n 64=min n 64:=rfl;omega
 have d2:N2≤64:=by have:Nat.min n2 64=min n2 64:=rfl;omega
 have HN:=Lib.hid hN
 have HN2:=Lib.hid hN2
 have C1:=Lib.hid c1
 have C2':=Lib.hid c2
 have HL:=Lib.hid hL
 have HT:=Lib.hid hT
 have Hn:=Lib.hid hn
 have H2:=Lib.hid h2
 clear hN hN2 c1 c2 hL hT hn h2
 have k1:=mk22 N (by omega)
 have k2:=mk23 N2 (by omega)
 go_enter Tryz.func14,Tryz.ntmps14
 go_wp2_with fail
 refine(bring_any _ m 0 2 _ (by decide) (by simp) (by simp)).mono ?_
 rintro e w' ⟨rfl,rfl⟩
 go_wp2_with fail
 refine(bring_any _ wd 1 2 _ (by decide) (by simp) (by simp)).mono ?_
 rintro e w' ⟨rfl,rfl⟩
 go_wp2_with fail
 refine(bring_any _ ro 2 8 _ (by decide) (by simp) (by simp)).mono ?_
 rintro e w' ⟨rfl,rfl⟩
 go_wp2_with fail
 refine(bring_any _ qu 1 4 _ (by decide) (by simp) (by simp)).mono ?_
 rintro e w' ⟨rfl,rfl⟩
 go_wp2_with fail
 refine(bring_any _ st 1 4 _ (by decide) (by simp) (by simp)).mono ?_
 rintro e w' ⟨rfl,rfl⟩
 go_wp2_with fail
 refine(bring_any _ sl 2 6 _ (by decide) (by simp) (by simp)).mono ?_
 rintro e w' ⟨rfl,rfl⟩
 go_wp2_with fail
 refine(bring_any _ se 1 4 _ (by decide) (by simp) (by simp)).mono ?_
 rintro e w' ⟨rfl,rfl⟩
 go_wp2_with fail
 refine(bring_any _ wa 1 2 _ (by decide) (by simp) (by simp)).mono ?_
 rintro e w' ⟨rfl,rfl⟩
 generalize hm:cl 0 2 m=m'
 generalize hwd:cl 1 2 wd=wd'
 generalize hro:cl 2 8 ro=ro'
 generalize hqu:cl 1 4 qu=qu'
 generalize hst:cl 1 4 st=st'
 generalize hsl:cl 2 6 sl=sl'
 generalize hwa:cl 1 2 wa=wa'
 have HH:=Lib.hid (And.intro hm (And.intro hwd (And.intro hro (And.intro hqu (And.intro hst (And.intro hsl hwa))))))
 clear hm hwd hro hqu hst hsl hwa
 have hM:(L.take N).length=N:=by have:=C1.out;have:=Hn.out;have:Nat.min n N=min n N:=rfl;simp;omega
 have HM:=Lib.hid hM
 clear hM
 go_wp2_with ((refine copy_made (o:=⟨some 43,_,_,_,_,_⟩) rfl _ _ 22 22 rfl 3 Tryz.underlying22 (by kernel_rfl) .i64 A L n C N (w.heap.size+1+1) (by simp) C1.out Hn.out rfl rfl (by exact(HL.out.alloc _).alloc _) ?_))
 go_loopw [46] (fun v wr=>∃ k:Nat,k≤N∧v= .int .i64 k∧wr=(((w.alloc (.cells #[.int .i64 m',.int .i64 wd',.int .i64 ro',.int .i64 qu',.int .i64 st',.int .i64 sl',.int .i64 (cl 1 4 se),.int .i64 wa',.slice A n C,.bool tb,.slice A2 n2 C2] 25)).alloc (.cells #[.int .i64 0,.int .i64 0,.int .i64 0,.int .i64 0,.int .i64 0,.int .i64 0,.int .i64 0,.int .i64 0,.slice none 0 0,.bool false,.slice none 0 0] 25)).alloc (.cells (ar .i64 (mix 1 8 (L.take N) k)) 3))) (fun v _=>N-(intOf v).toNat)
 case atStart=>exact⟨0,by omega,rfl,by rw[mix_zero]⟩
 case round=>
  obtain⟨k,hk,rfl,rfl⟩:=hrel
  by_cases hlt:k<N
  ·have hcell:=mix_at 1 8 (L.take N) k (by rw[HM.out];exact hlt)
   have hset:=mix_set 1 8 (L.take N) k (by rw[HM.out];exact hlt)
   obtain⟨z,ez⟩:∃ z,(L.take N).getD k 0=z:=⟨_,rfl⟩
   rw[ez]at hcell hset
   have HS:=Lib.hid hset
   clear ez hset
   go_wp2_with (go_at_call 34;refine(bring_any _ z 1 8 _ (by decide) (by exact(World.cell?_alloc_at _ _ _ _ (by simp)).trans hcell) (by exact World.frozen?_alloc_at _ _ _ _ (by simp))).mono ?_;rintro e w' ⟨rfl,rfl⟩)
   go_roundw
   case rel=>exact⟨k+1,by omega,by go_num,by rw[HS.out]⟩
   case measure=>simp[intOf];omega
  ·have hkN:k=N:=by omega
   subst hkN
   have hall:mix 1 8 (L.take k) k=(L.take k).map (cl 1 8):=by
    have:=mix_all 1 8 (L.take k);rw[HM.out]at this;exact this
   rw[hall]
   generalize hR:ar .i64 ((L.take k).map (cl 1 8))=R
   have HR:=Lib.hid hR
   clear hR hall
   go_wp2_with ((refine copy_made (o:=⟨some 63,_,_,_,_,_⟩) rfl _ _ 23 23 rfl 28 Tryz.underlying23 (by kernel_rfl) .u32 A2 T n2 C2 N2 (w.heap.size+1+1+1) (by simp) C2'.out H2.out rfl rfl (by exact(((HT.out.alloc _).alloc _).alloc _)) ?_))
   refine bodyPost_ret (v:=.agg #[.int .i64 m',.int .i64 wd',.int .i64 ro',.int .i64 qu',.int .i64 st',.int .i64 sl',.int .i64 (cl 1 4 se),.int .i64 wa',.slice (some ⟨w.heap.size+1+1,0,none⟩) k k,.bool tb,.slice (some ⟨w.heap.size+1+1+1,0,none⟩) N2 N2]) (by simp[results,Tryz.results14,go_sem]) rfl ?_
   have hh:=HH.out
   obtain⟨rfl,rfl,rfl,rfl,rfl,rfl,rfl⟩:=hh
   have hse:cs se=cl 1 4 se:=by unfold cs;rw[if_neg (by simpa using hz)]
   have q1:Nat.min L.length 64=k:=by rw[Hn.out];exact HN.out.symm
   have q2:Nat.min T.length 64=N2:=by rw[H2.out];exact HN2.out.symm
   have t1:=take_min L n k Hn.out HN.out
   have t2:=take_min T n2 N2 H2.out HN2.out
   have hR:=HR.out
   subst hR
   unfold CleanPost
   rw[hse,q1,q2,t1,t2]
   exact⟨w.heap.size+1+1,w.heap.size+1+1+1,rfl,(Sl.fresh_at (by simp)).alloc _,Sl.fresh_at (by simp),by go_grown,by omega,by omega⟩
end Go.Proofs.YtdmhfogegfmnfaaGreatDoor.Cnf
namespace Go.Proofs.YtdmhfogegfmnfaaGreatDoor.Cnf
open Go.ChangeShapes Go.WideShapes Go.ChangeAt Go.RowKit
theorem clean_3(m wd ro qu st sl se wa:Int)(A A2:Option Addr)(n C n2 C2:Nat)(L T:List Int)(tb:Bool)(w:World)(hn:L.length=n)(h2:T.length=n2)(bn:n≤9223372036854775807)(b2:n2≤9223372036854775807)
 (hL:Sl w .i64 A L) (hT:Sl w .u32 A2 T) (se':Int) (hz:(cl 1 4 se== 3)=true):
 Calls Tryz.prog 14 #[.agg #[.int .i64 m,.int .i64 wd,.int .i64 ro,.int .i64 qu,.int .i64 st,.int .i64 sl,.int .i64 se,.int .i64 wa,.slice A n C,.bool tb,.slice A2 n2 C2]] w (CleanPost m wd ro qu st sl se wa tb L T w):=by
 obtain⟨N,hN⟩:∃ N:Nat,N=Nat.min n 64:=⟨_,rfl⟩
 obtain⟨N2,hN2⟩:∃ N:Nat,N=Nat.min n2 64:=⟨_,rfl⟩
 have e1:(if(64:Int)<(n:Int)then(64:Int)else(n:Int))=(N:Int):=by
  have:Nat.min n 64=min n 64:=rfl
  split<;>omega
 have e2:(if(64:Int)<(n2:Int)then(64:Int)else(n2:Int))=(N2:Int):=by
  have:Nat.min n2 64=min n2 64:=rfl
  split<;>omega
 have c1:N=Nat.min n N:=by
  have:Nat.min n 64=min n 64:=rfl
  have:Nat.min n N=min n N:=rfl
  omega
 have c2:N2=Nat.min n2 N2:=by
  have:Nat.min n2 64=min n2 64:=rfl
  have:Nat.min n2 N2=min n2 N2:=rfl
  omega
 have d1:N≤64:=by have:Nat.min n 64=min n 64:=rfl;omega
 have d2:N2≤64:=by have:Nat.min n2 64=min n2 64:=rfl;omega
 have HN:=Lib.hid hN
 have HN2:=Lib.hid hN2
 have C1:=Lib.hid c1
 have C2':=Lib.hid c2
 have HL:=Lib.hid hL
 have HT:=Lib.hid hT
 have Hn:=Lib.hid hn
 have H2:=Lib.hid h2
 clear hN hN2 c1 c2 hL hT hn h2
 have k1:=mk22 N (by omega)
 have k2:=mk23 N2 (by omega)
 go_enter Tryz.func14,Tryz.ntmps14
 go_wp2_with fail
 refine(bring_any _ m 0 2 _ (by decide) (by simp) (by simp)).mono ?_
 rintro e w' ⟨rfl,rfl⟩
 go_wp2_with fail
 refine(bring_any _ wd 1 2 _ (by decide) (by simp) (by simp)).mono ?_
 rintro e w' ⟨rfl,rfl⟩
 go_wp2_with fail
 refine(bring_any _ ro 2 8 _ (by decide) (by simp) (by simp)).mono ?_
 rintro e w' ⟨rfl,rfl⟩
 go_wp2_with fail
 refine(bring_any _ qu 1 4 _ (by decide) (by simp) (by simp)).mono ?_
 rintro e w' ⟨rfl,rfl⟩
 go_wp2_with fail
 refine(bring_any _ st 1 4 _ (by decide) (by simp) (by simp)).mono ?_
 rintro e w' ⟨rfl,rfl⟩
 go_wp2_with fail
 refine(bring_any _ sl 2 6 _ (by decide) (by simp) (by simp)).mono ?_
 rintro e w' ⟨rfl,rfl⟩
 go_wp2_with fail
 refine(bring_any _ se 1 4 _ (by decide) (by simp) (by simp)).mono ?_
 rintro e w' ⟨rfl,rfl⟩
 go_wp2_with fail
 refine(bring_any _ wa 1 2 _ (by decide) (by simp) (by simp)).mono ?_
 rintro e w' ⟨rfl,rfl⟩
 generalize hm:cl 0 2 m=m'
 generalize hwd:cl 1 2 wd=wd'
 generalize hro:cl 2 8 ro=ro'
 generalize hqu:cl 1 4 qu=qu'
 generalize hst:cl 1 4 st=st'
 generalize hsl:cl 2 6 sl=sl'
 generalize hwa:cl 1 2 wa=wa'
 have HH:=Lib.hid (And.intro hm (And.intro hwd (And.intro hro (And.intro hqu (And.intro hst (And.intro hsl hwa))))))
 clear hm hwd hro hqu hst hsl hwa
 have hM:(L.take N).length=N:=by have:=C1.out;have:=Hn.out;have:Nat.min n N=min n N:=rfl;simp;omega
 have HM:=Lib.hid hM
 clear hM
 go_wp2_with ((refine copy_made (o:=⟨some 43,_,_,_,_,_⟩) rfl _ _ 22 22 rfl 3 Tryz.underlying22 (by kernel_rfl) .i64 A L n C N (w.heap.size+1+1) (by simp) C1.out Hn.out rfl rfl (by exact(HL.out.alloc _).alloc _) ?_))
 go_loopw [46] (fun v wr=>∃ k:Nat,k≤N∧v= .int .i64 k∧wr=(((w.alloc (.cells #[.int .i64 m',.int .i64 wd',.int .i64 ro',.int .i64 qu',.int .i64 st',.int .i64 sl',.int .i64 2,.int .i64 wa',.slice A n C,.bool tb,.slice A2 n2 C2] 25)).alloc (.cells #[.int .i64 0,.int .i64 0,.int .i64 0,.int .i64 0,.int .i64 0,.int .i64 0,.int .i64 0,.int .i64 0,.slice none 0 0,.bool false,.slice none 0 0] 25)).alloc (.cells (ar .i64 (mix 1 8 (L.take N) k)) 3))) (fun v _=>N-(intOf v).toNat)
 case atStart=>exact⟨0,by omega,rfl,by rw[mix_zero]⟩
 case round=>
  obtain⟨k,hk,rfl,rfl⟩:=hrel
  by_cases hlt:k<N
  ·have hcell:=mix_at 1 8 (L.take N) k (by rw[HM.out];exact hlt)
   have hset:=mix_set 1 8 (L.take N) k (by rw[HM.out];exact hlt)
   obtain⟨z,ez⟩:∃ z,(L.take N).getD k 0=z:=⟨_,rfl⟩
   rw[ez]at hcell hset
   have HS:=Lib.hid hset
   clear ez hset
   go_wp2_with (go_at_call 34;refine(bring_any _ z 1 8 _ (by decide) (by exact(World.cell?_alloc_at _ _ _ _ (by simp)).trans hcell) (by exact World.frozen?_alloc_at _ _ _ _ (by simp))).mono ?_;rintro e w' ⟨rfl,rfl⟩)
   go_roundw
   case rel=>exact⟨k+1,by omega,by go_num,by rw[HS.out]⟩
   case measure=>simp[intOf];omega
  ·have hkN:k=N:=by omega
   subst hkN
   have hall:mix 1 8 (L.take k) k=(L.take k).map (cl 1 8):=by
    have:=mix_all 1 8 (L.take k);rw[HM.out]at this;exact this
   rw[hall]
   generalize hR:ar .i64 ((L.take k).map (cl 1 8))=R
   have HR:=Lib.hid hR
   clear hR hall
   go_wp2_with ((refine copy_made (o:=⟨some 63,_,_,_,_,_⟩) rfl _ _ 23 23 rfl 28 Tryz.underlying23 (by kernel_rfl) .u32 A2 T n2 C2 N2 (w.heap.size+1+1+1) (by simp) C2'.out H2.out rfl rfl (by exact(((HT.out.alloc _).alloc _).alloc _)) ?_))
   refine bodyPost_ret (v:=.agg #[.int .i64 m',.int .i64 wd',.int .i64 ro',.int .i64 qu',.int .i64 st',.int .i64 sl',.int .i64 2,.int .i64 wa',.slice (some ⟨w.heap.size+1+1,0,none⟩) k k,.bool tb,.slice (some ⟨w.heap.size+1+1+1,0,none⟩) N2 N2]) (by simp[results,Tryz.results14,go_sem]) rfl ?_
   have hh:=HH.out
   obtain⟨rfl,rfl,rfl,rfl,rfl,rfl,rfl⟩:=hh
   have hse:cs se=2:=by unfold cs;rw[if_pos (by simpa using hz)]
   have q1:Nat.min L.length 64=k:=by rw[Hn.out];exact HN.out.symm
   have q2:Nat.min T.length 64=N2:=by rw[H2.out];exact HN2.out.symm
   have t1:=take_min L n k Hn.out HN.out
   have t2:=take_min T n2 N2 H2.out HN2.out
   have hR:=HR.out
   subst hR
   unfold CleanPost
   rw[hse,q1,q2,t1,t2]
   exact⟨w.heap.size+1+1,w.heap.size+1+1+1,rfl,(Sl.fresh_at (by simp)).alloc _,Sl.fresh_at (by simp),by go_grown,by omega,by omega⟩
theorem clean_any(m wd ro qu st sl se wa:Int)(A A2:Option Addr)(C C2:Nat)(L T:List Int)(tb:Bool)(n n2:Nat)(w:World)(hn:L.length=n)(h2:T.length=n2)(bn:n≤9223372036854775807)(b2:n2≤9223372036854775807)
 (hL:Sl w .i64 A L) (hT:Sl w .u32 A2 T):
 Calls Tryz.prog 14 #[.agg #[.int .i64 m,.int .i64 wd,.int .i64 ro,.int .i64 qu,.int .i64 st,.int .i64 sl,.int .i64 se,.int .i64 wa,.slice A n C,.bool tb,.slice A2 n2 C2]] w (CleanPost m wd ro qu st sl se wa tb L T w):=by
 cases hz:(cl 1 4 se== 3)with
 | true=>exact clean_3 m wd ro qu st sl se wa A A2 n C n2 C2 L T tb w hn h2 bn b2 hL hT 0 hz
 | false=>exact clean_x m wd ro qu st sl se wa A A2 n C n2 C2 L T tb w hn h2 bn b2 hL hT 0 hz
end Go.Proofs.YtdmhfogegfmnfaaGreatDoor.Cnf
