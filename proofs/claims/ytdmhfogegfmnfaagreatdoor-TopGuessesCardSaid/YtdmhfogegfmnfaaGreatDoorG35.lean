/- Plain: an entry, and the program's own step at its place. No conditions. Plain: rows of entries and the program's own steps at their places; what is read of registers and memory. No conditions. Plain: entries that start, and loads that take their bytes, go with the program's own steps. No conditions. -/
import Derived.Test.YtdmhfogegfmnfaaGreatDoorG01
import Derived.Test.YtdmhfogegfmnfaaGreatDoorG34
set_option linter.unusedVariables false
set_option linter.unusedSimpArgs false
namespace Go.Proofs.YtdmhfogegfmnfaaGreatDoor
open Go.RowKit
structure EI(prog:List U)(x:List U×By)(e:En):Prop where
 i:e.i=(nw prog e.pc).i
 dead:(nw prog e.pc).halt≠0→e.is=3∧e.known=false∧e.halt≠0
 addr:kd e.i.op=3∨kd e.i.op=4→e.known=true→e.halt=0∧okAt x.2.length e.addr (sz e.i.op)=true∧e.addr=addU (rg x.1 e.i.r1) e.i.imm.v
 told:e.is=1∨e.is=3→toldE e=seq1 prog x e.pc
 fresh:e.is=0∨e.is=2→e.halt=0
 jump:kd e.i.op=5→e.known=true→e.is=3∧e.halt=0
 load:e.is=2→kd e.i.op=3∧e.known=true
 rng:e.is=0∨e.is=1∨e.is=2∨e.is=3
 work:e.is=1→kd e.i.op≠4
 jk:kd e.i.op=5→e.is=3→e.halt=0→e.known=true
theorem EI.alive{prog:List U}{x:List U×By}{e:En}(h:EI prog x e)(hi:e.is=0∨e.is=1∨e.is=2):(nw prog e.pc).halt=0∧(nw prog e.pc).is=0:=by
 by_cases q:(nw prog e.pc).halt=0
 ·rcases(nw_is prog e.pc).1 with p|p
  ·exact⟨q,p.1⟩
  ·exact absurd q p.2
 ·have:=(h.dead q).1
  omega
theorem EI.alive'{prog:List U}{x:List U×By}{e:En}(h:EI prog x e)(hi:e.known=true):(nw prog e.pc).halt=0∧(nw prog e.pc).is=0:=by
 by_cases q:(nw prog e.pc).halt=0
 ·rcases(nw_is prog e.pc).1 with p|p
  ·exact⟨q,p.1⟩
  ·exact absurd q p.2
 ·have:=(h.dead q).2.1
  rw[hi]at this
  cases this
theorem EI.new(no:Int)(f:Fe)(prog:List U)(x:List U×By):EI prog x (newE no f prog):=by
 have e:=newE_eq no f prog
 obtain⟨h1,h2,h3⟩:=nw_is prog f.pc
 have hp:(newE no f prog).pc=f.pc:=newE_pc _ _ _
 have hi:(newE no f prog).i=(nw prog f.pc).i:=by rw[e]
 have his:(newE no f prog).is=(nw prog f.pc).is:=by rw[e]
 have hh:(newE no f prog).halt=(nw prog f.pc).halt:=by rw[e]
 have hk:(newE no f prog).known=false:=by rw[e];exact h2
 have hth:toldE (newE no f prog)=toldE (nw prog f.pc):=by
  rw[e]
  exact told_congr (nw_pc prog f.pc▸rfl) rfl rfl rfl rfl rfl rfl
 refine⟨by rw[hp,hi],?_,fun _ q=>?_,?_,?_,fun _ q=>?_,?_,?_,?_,?_⟩
 ·rw[hp,his,hh]
  intro q
  refine⟨?_,hk,q⟩
  rcases h1 with p|p
  ·exact absurd p.2 q
  ·exact p.1
 ·rw[hk]at q;cases q
 ·rw[his,hp]
  intro q
  have h3':(nw prog f.pc).halt≠0:=by
   rcases h1 with p|p
   ·omega
   ·exact p.2
  unfold seq1 finE
  rw[if_pos h3',hth]
 ·rw[his,hh]
  intro q
  rcases h1 with p|p
  ·exact p.2
  ·omega
 ·rw[hk]at q;cases q
 ·rw[his]
  intro q
  rcases h1 with p|p<;>omega
 ·rw[his]
  rcases h1 with p|p<;>omega
 ·rw[his]
  intro q
  rcases h1 with p|p<;>omega
 ·rw[his,hh]
  intro _ q r
  rcases h1 with p|p
  ·omega
  ·exact absurd r p.2
theorem EI.go{prog:List U}{x:List U×By}{e:En}(h:EI prog x e):EI prog x (goE e):=by
 unfold goE
 split
 ·exact h
 ·rename_i h1
  have h1:e.is=1:=by omega
  obtain⟨a1,a2⟩:=h.alive (.inr (.inl h1))
  have ht:=h.told (.inl h1)
  split
  ·refine⟨h.i,fun q=>absurd a1 q,fun q k=>?_,fun _=>?_,fun q=>?_,fun q k=>⟨rfl,?_⟩,fun q=>?_,.inr (.inr (.inr rfl)),fun q=>?_,fun q _ r=>?_⟩
   ·have h5:¬ (kd e.i.op=5∧e.halt=0):=fun z=>by
     have q':kd e.i.op=3∨kd e.i.op=4:=q
     omega
    simp only[if_neg h5]at k
    exact h.addr q k
   ·exact Eq.trans (told_congr rfl rfl rfl rfl rfl rfl rfl) ht
   ·have q':(3:Int)=0∨(3:Int)=2:=q
    omega
   ·by_cases h5:kd e.i.op=5∧e.halt=0
    ·exact h5.2
    ·simp only[if_neg h5]at k
     exact(h.jump q k).2
   ·have q':(3:Int)=2:=q
    omega
   ·have q':(3:Int)=1:=q
    omega
   ·exact if_pos ⟨q,r⟩
  ·refine⟨h.i,fun q=>absurd a1 q,h.addr,fun _=>Eq.trans (told_congr rfl rfl rfl rfl rfl rfl rfl) ht,fun q=>?_,fun q k=>?_,h.load,h.rng,h.work,h.jk⟩
   ·exact h.fresh q
   ·have:=(h.jump q k).1
    omega
theorem EI.guess{prog:List U}{x:List U×By}{e:En}(h:EI prog x e)(u:U):EI prog x { e with guess:=u } :=
 ⟨h.i,h.dead,h.addr,fun q=>by rw[show toldE { e with guess:=u }=toldE e from told_congr rfl rfl rfl rfl rfl rfl rfl];exact h.told q,h.fresh,h.jump,h.load,h.rng,h.work,h.jk⟩
theorem EI.fill{prog:List U}{x:List U×By}{e:En}(h:EI prog x e)(b:Bool):EI prog x { e with filled:=b } :=
 ⟨h.i,h.dead,h.addr,fun q=>by rw[show toldE { e with filled:=b }=toldE e from told_congr rfl rfl rfl rfl rfl rfl rfl];exact h.told q,h.fresh,h.jump,h.load,h.rng,h.work,h.jk⟩
theorem EI.wait{prog:List U}{x:List U×By}{e:En}(h:EI prog x e)(hk:kd e.i.op=3)(hn:e.known=true):EI prog x { e with is:=2 }:=by
 obtain⟨a1,a2⟩:=h.alive' hn
 refine⟨h.i,fun q=>absurd a1 q,h.addr,fun q=>?_,fun _=>(h.addr (.inl hk) hn).1,fun q k=>?_,fun _=>⟨hk,hn⟩,.inr (.inr (.inl rfl)),fun q=>?_,fun q=>?_⟩
 ·have q':(2:Int)=1∨(2:Int)=3:=q
  omega
 ·have q':kd e.i.op=5:=q
  omega
 ·have q':(2:Int)=1:=q
  omega
 ·have q':kd e.i.op=5:=q
  omega
theorem told_bad{e:En}(h:e.halt≠0):toldE e=⟨e.pc,e.pc,0,U.of 0,if e.halt=4∨e.halt=5 then e.addr else U.of 0,0,false,e.halt,0⟩:=by
 unfold toldE
 rw[if_pos h]
theorem told_load_eq{e:En}(h:e.halt=0)(h3:kd e.i.op=3):toldE e=⟨e.pc,addU e.pc 4,wr e.i.op e.i.rd,if wr e.i.op e.i.rd=0 then U.of 0 else e.value,e.addr,sz e.i.op,false,0,0⟩:=by
 unfold toldE
 rw[if_neg (by omega)]
 simp only
 rw[if_neg (by omega),if_pos h3]
theorem seq_start{prog:List U}{x:List U×By}{pc:U}(h0:(nw prog pc).halt=0)(h3:kd (nw prog pc).i.op≠3)(h4:kd (nw prog pc).i.op≠4):seq1 prog x pc=toldE (startE (nw prog pc) (rg x.1 (nw prog pc).i.r1) (rg x.1 (nw prog pc).i.r2)):=by
 unfold seq1 finE
 rw[if_neg (by omega),if_neg h3,if_neg h4]
theorem seq_load{prog:List U}{x:List U×By}{pc:U}(h0:(nw prog pc).halt=0)(h3:kd (nw prog pc).i.op=3):seq1 prog x pc=toldE (let y:=addrE (nw prog pc) x.2.length (rg x.1 (nw prog pc).i.r1);if y.halt≠0 then y else takeE y (readM x.2 y.addr (sz (nw prog pc).i.op)).1):=by
 unfold seq1 finE
 rw[if_neg (by omega),if_pos h3]
theorem seq_store{prog:List U}{x:List U×By}{pc:U}(h0:(nw prog pc).halt=0)(h4:kd (nw prog pc).i.op=4):seq1 prog x pc=toldE (let y:=addrE (nw prog pc) x.2.length (rg x.1 (nw prog pc).i.r1);if y.halt≠0 then y else storeE y (rg x.1 (nw prog pc).i.r2)):=by
 unfold seq1 finE
 rw[if_neg (by omega),if_neg (by omega),if_pos h4]
theorem nw_addr{prog:List U}{pc:U}(h0:(nw prog pc).halt=0)(h3:kd (nw prog pc).i.op=3∨kd (nw prog pc).i.op=4)(n:Int)(a:U):addrE (nw prog pc) n a=if okAt n (addU a (nw prog pc).i.imm.v) (sz (nw prog pc).i.op)=true then { nw prog pc with addr:=addU a (nw prog pc).i.imm.v,known:=true } else { nw prog pc with addr:=addU a (nw prog pc).i.imm.v,halt:=if kd (nw prog pc).i.op=4 then 5 else 4,is:=3 }:=by
 obtain⟨h1,h2,_⟩:=nw_is prog pc
 have his:(nw prog pc).is=0:=by
  rcases h1 with p|p
  ·exact p.1
  ·exact absurd h0 p.2
 unfold addrE
 rw[if_neg]
 rintro(q|q|q)
 ·omega
 ·omega
 ·rw[h2]at q;cases q
def tellI(i:In)(pc a b:U):St:=
 let v:=if wr i.op i.rd=0 then U.of 0 else valU i pc a b
 if kd i.op=2 then⟨pc,addU pc 4,wr i.op i.rd,v,U.of 0,0,false,0,tk i.op a.v b.v⟩
 else if kd i.op=5 then(if tgtB i pc a b then⟨pc,nxU i pc a b,wr i.op i.rd,v,U.of 0,0,false,0,0⟩else⟨pc,pc,0,U.of 0,U.of 0,0,false,3,0⟩)
 else⟨pc,addU pc 4,wr i.op i.rd,v,U.of 0,0,false,0,0⟩
theorem told_start{e:En}(a b:U)(h0:e.is=0)(hh:e.halt=0)(h3:kd e.i.op≠3)(h4:kd e.i.op≠4):toldE (startE e a b)=tellI e.i e.pc a b:=by
 unfold startE tellI
 rw[if_neg (by omega)]
 simp only
 by_cases k1:kd e.i.op=1
 ·have k2:¬ kd e.i.op=2:=by omega
  have k5:¬ kd e.i.op=5:=by omega
  rw[if_pos k1,if_neg k2,if_neg k5]
  unfold workE toldE
  simp only[hh]
  rw[if_neg (by decide),if_neg h4,if_neg h3,if_neg k2,if_neg k5]
  split<;>rfl
 ·rw[if_neg k1]
  by_cases k2:kd e.i.op=2
  ·rw[if_pos k2,if_pos k2]
   unfold workE toldE
   simp only[hh]
   rw[if_neg (by decide),if_neg h4,if_neg h3,if_pos k2]
   split<;>rfl
  ·rw[if_neg k2,if_neg k2]
   by_cases k5:kd e.i.op=5
   ·rw[if_pos k5,if_pos k5]
    split
    ·unfold workE toldE
     simp only[hh]
     rw[if_neg (by decide),if_neg h4,if_neg h3,if_neg k2,if_pos k5]
     split<;>rfl
    ·unfold workE toldE
     simp only
     rw[if_pos (by decide)]
     rfl
   ·rw[if_neg k5,if_neg k5]
    unfold workE toldE
    simp only[hh]
    rw[if_neg (by decide),if_neg h4,if_neg h3,if_neg k2,if_neg k5]
    split<;>rfl
theorem EI.start{prog:List U}{x:List U×By}{e:En}(h:EI prog x e)(h0:e.is=0)(h3:kd e.i.op≠3)(h4:kd e.i.op≠4){a b:U}(ha:a=rg x.1 e.i.r1)(hb:b=rg x.1 e.i.r2):EI prog x (startE e a b):=by
 obtain⟨a1,a2⟩:=h.alive (.inl h0)
 have hh:=h.fresh (.inl h0)
 obtain⟨s1,s2,s3⟩:=startE_i e a b
 have hi:=h.i
 have hst:(startE e a b).is=1∧(startE e a b).known=e.known:=by
  unfold startE
  rw[if_neg (by omega)]
  simp only
  repeat' split
  all_goals exact⟨rfl,rfl⟩
 obtain⟨his,hkn⟩:=hst
 refine⟨by rw[s1,s2];exact hi,fun q=>absurd a1 (by rw[s2]at q;exact q),fun q=>?_,fun _=>?_,fun q=>?_,fun q k=>?_,fun q=>?_,.inr (.inl his),fun _=>by rw[s1];exact h4,fun _ q=>?_⟩
 ·rw[s1]at q;omega
 ·rw[s2,seq_start a1 (by rw[← hi];exact h3) (by rw[← hi];exact h4),told_start a b h0 hh h3 h4,told_start _ _ a2 a1 (by rw[← hi];exact h3) (by rw[← hi];exact h4),nw_pc,← hi,← ha,← hb]
 ·rw[his]at q;omega
 ·rw[s1]at q;rw[hkn]at k
  have:=(h.jump q k).1
  omega
 ·rw[his]at q;omega
 ·rw[his]at q;omega
theorem EI.addrE{prog:List U}{x:List U×By}{e:En}(h:EI prog x e)(hk:kd e.i.op=3∨kd e.i.op=4){a:U}(ha:e.known=false→e.is=0→a=rg x.1 e.i.r1):EI prog x (addrE e x.2.length a):=by
 unfold Go.Proofs.YtdmhfogegfmnfaaGreatDoor.addrE
 split
 ·exact h
 ·rename_i hc
  have h0:e.is=0:=by omega
  have hkn:e.known=false:=by
   cases q:e.known with
   | false=>rfl
   | true=>exact absurd (.inr (.inr q)) hc
  have ha:=ha hkn h0
  obtain⟨a1,a2⟩:=h.alive (.inl h0)
  have hh:=h.fresh (.inl h0)
  have hi:=h.i
  split
  ·rename_i hok
   refine⟨hi,fun q=>absurd a1 q,fun _ _=>⟨hh,hok,by rw[ha]⟩,fun q=>?_,fun _=>hh,fun q=>?_,fun q=>?_,.inl h0,fun q=>?_,fun q=>?_⟩
   ·have q':e.is=1∨e.is=3:=q
    omega
   ·have q':kd e.i.op=5:=q
    omega
   ·have q':e.is=2:=q
    omega
   ·have q':e.is=1:=q
    omega
   ·have q':kd e.i.op=5:=q
    omega
  ·rename_i hok
   refine⟨hi,fun q=>absurd a1 q,fun _ q=>?_,fun _=>?_,fun q=>?_,fun q=>?_,fun q=>?_,.inr (.inr (.inr rfl)),fun q=>?_,fun q=>?_⟩
   ·have q':e.known=true:=q
    rw[hkn]at q';cases q'
   ·have hb:(if kd e.i.op=4 then(5:Int)else 4)≠0:=by split<;>decide
    have e1:Go.Proofs.YtdmhfogegfmnfaaGreatDoor.addrE (nw prog e.pc) x.2.length (rg x.1 (nw prog e.pc).i.r1)={ nw prog e.pc with addr:=addU (rg x.1 (nw prog e.pc).i.r1) (nw prog e.pc).i.imm.v,halt:=if kd (nw prog e.pc).i.op=4 then 5 else 4,is:=3 }:=by
     rw[nw_addr a1 (by rw[← hi];exact hk),if_neg (by rw[← hi,← ha];exact hok)]
    have e2:seq1 prog x e.pc=toldE { nw prog e.pc with addr:=addU (rg x.1 (nw prog e.pc).i.r1) (nw prog e.pc).i.imm.v,halt:=if kd (nw prog e.pc).i.op=4 then 5 else 4,is:=3 }:=by
     rcases hk with k|k
     ·rw[seq_load a1 (by rw[← hi];exact k)]
      simp only[e1]
      rw[if_pos (by rw[← hi];exact hb)]
     ·rw[seq_store a1 (by rw[← hi];exact k)]
      simp only[e1]
      rw[if_pos (by rw[← hi];exact hb)]
    rw[e2,told_bad hb,told_bad (by rw[← hi];exact hb)]
    simp only[nw_pc,← hi,← ha]
   ·have q':(3:Int)=0∨(3:Int)=2:=q
    omega
   ·have q':kd e.i.op=5:=q
    omega
   ·have q':(3:Int)=2:=q
    omega
   ·have q':(3:Int)=1:=q
    omega
   ·have q':kd e.i.op=5:=q
    omega
theorem EI.takeE{prog:List U}{x:List U×By}{e:En}(h:EI prog x e){b:By}(hb:e.known=true→kd e.i.op=3→b=(readM x.2 e.addr (sz e.i.op)).1):EI prog x (takeE e b):=by
 unfold Go.Proofs.YtdmhfogegfmnfaaGreatDoor.takeE
 split
 ·exact h
 ·rename_i hc
  have hk:kd e.i.op=3:=by omega
  have hkn:e.known=true:=by
   cases q:e.known with
   | true=>rfl
   | false=>exact absurd (.inr (.inl q)) hc
  obtain⟨a1,a2⟩:=h.alive' hkn
  obtain⟨hh,hok,had⟩:=h.addr (.inl hk) hkn
  have hi:=h.i
  refine⟨hi,fun q=>absurd a1 q,h.addr,fun _=>?_,fun q=>?_,fun q=>?_,fun q=>?_,.inr (.inl rfl),fun _=>by show kd e.i.op≠4;omega,fun q=>?_⟩
  ·have e1:Go.Proofs.YtdmhfogegfmnfaaGreatDoor.addrE (nw prog e.pc) x.2.length (rg x.1 (nw prog e.pc).i.r1)={ nw prog e.pc with addr:=e.addr,known:=true }:=by
    rw[nw_addr a1 (by rw[← hi];exact .inl hk),if_pos (by rw[← hi,← had];exact hok),← hi,← had]
   have e2:seq1 prog x e.pc=toldE (Go.Proofs.YtdmhfogegfmnfaaGreatDoor.takeE { nw prog e.pc with addr:=e.addr,known:=true } b):=by
    rw[seq_load a1 (by rw[← hi];exact hk)]
    simp only[e1]
    rw[if_neg (by omega),hb hkn hk,← hi]
   have e3:Go.Proofs.YtdmhfogegfmnfaaGreatDoor.takeE { nw prog e.pc with addr:=e.addr,known:=true } b={ nw prog e.pc with addr:=e.addr,known:=true,is:=1,left:=1,value:=if wr (nw prog e.pc).i.op (nw prog e.pc).i.rd=0 then U.of 0 else loadM (nw prog e.pc).i.op b }:=by
    unfold Go.Proofs.YtdmhfogegfmnfaaGreatDoor.takeE
    rw[if_neg]
    rintro(q|q|q)
    ·exact q (by rw[← hi];exact hk)
    ·cases q
    ·exact q.1 a2
   rw[e2,e3,told_load_eq (e:={ e with is:=1,left:=1,value:=if wr e.i.op e.i.rd=0 then U.of 0 else loadM e.i.op b }) hh hk,told_load_eq (e:={ nw prog e.pc with addr:=e.addr,known:=true,is:=1,left:=1,value:=if wr (nw prog e.pc).i.op (nw prog e.pc).i.rd=0 then U.of 0 else loadM (nw prog e.pc).i.op b }) a1 (by show kd (nw prog e.pc).i.op=3;rw[← hi];exact hk)]
   simp only[nw_pc,← hi]
  ·have q':(1:Int)=0∨(1:Int)=2:=q
   omega
  ·have q':kd e.i.op=5:=q
   omega
  ·have q':(1:Int)=2:=q
   omega
  ·have q':kd e.i.op=5:=q
   omega
theorem EI.storeE{prog:List U}{x:List U×By}{e:En}(h:EI prog x e){b:U}(hb:b=rg x.1 e.i.r2):EI prog x (storeE e b):=by
 unfold Go.Proofs.YtdmhfogegfmnfaaGreatDoor.storeE
 split
 ·exact h
 ·rename_i hc
  have hk:kd e.i.op=4:=by omega
  have h0:e.is=0:=by omega
  have hkn:e.known=true:=by
   cases q:e.known with
   | true=>rfl
   | false=>exact absurd (.inr (.inl q)) hc
  obtain⟨a1,a2⟩:=h.alive' hkn
  obtain⟨hh,hok,had⟩:=h.addr (.inr hk) hkn
  have hi:=h.i
  refine⟨hi,fun q=>absurd a1 q,h.addr,fun _=>?_,fun q=>?_,fun q=>?_,fun q=>?_,.inr (.inr (.inr rfl)),fun q=>?_,fun q=>?_⟩
  ·have e1:Go.Proofs.YtdmhfogegfmnfaaGreatDoor.addrE (nw prog e.pc) x.2.length (rg x.1 (nw prog e.pc).i.r1)={ nw prog e.pc with addr:=e.addr,known:=true }:=by
    rw[nw_addr a1 (by rw[← hi];exact .inr hk),if_pos (by rw[← hi,← had];exact hok),← hi,← had]
   have e2:seq1 prog x e.pc=toldE (Go.Proofs.YtdmhfogegfmnfaaGreatDoor.storeE { nw prog e.pc with addr:=e.addr,known:=true } b):=by
    rw[seq_store a1 (by rw[← hi];exact hk)]
    simp only[e1]
    rw[if_neg (by omega),hb,← hi]
   have e3:Go.Proofs.YtdmhfogegfmnfaaGreatDoor.storeE { nw prog e.pc with addr:=e.addr,known:=true } b={ nw prog e.pc with addr:=e.addr,known:=true,is:=3,value:=lowU b (sz (nw prog e.pc).i.op) }:=by
    unfold Go.Proofs.YtdmhfogegfmnfaaGreatDoor.storeE
    rw[if_neg]
    rintro(q|q|q)
    ·exact q (by rw[← hi];exact hk)
    ·cases q
    ·exact q a2
   rw[e2,e3,told_store_eq (e:={ e with is:=3,value:=lowU b (sz e.i.op) }) hh hk,told_store_eq (e:={ nw prog e.pc with addr:=e.addr,known:=true,is:=3,value:=lowU b (sz (nw prog e.pc).i.op) }) a1 (by show kd (nw prog e.pc).i.op=4;rw[← hi];exact hk)]
   simp only[nw_pc,← hi]
  ·have q':(3:Int)=0∨(3:Int)=2:=q
   omega
  ·have q':kd e.i.op=5:=q
   omega
  ·have q':(3:Int)=2:=q
   omega
  ·have q':(3:Int)=1:=q
   omega
  ·have q':kd e.i.op=5:=q
   omega
theorem EI.stores{prog:List U}{x:List U×By}{e:En}(h:EI prog x e)(hk:kd e.i.op=4)(hn:e.known=true):(seq1 prog x e.pc).halt=0∧∃ d:By,d.length=(sz e.i.op).toNat∧(fwd prog x e.pc).2=overM x.2 [⟨e.addr,d⟩]∧(e.is=3→d=bytesL e.value (sz e.i.op).toNat):=by
 obtain⟨a1,a2⟩:=h.alive' hn
 obtain⟨hh,hok,had⟩:=h.addr (.inr hk) hn
 have hi:=h.i
 have e1:Go.Proofs.YtdmhfogegfmnfaaGreatDoor.addrE (nw prog e.pc) x.2.length (rg x.1 (nw prog e.pc).i.r1)={ nw prog e.pc with addr:=e.addr,known:=true }:=by
  rw[nw_addr a1 (by rw[← hi];exact .inr hk),if_pos (by rw[← hi,← had];exact hok),← hi,← had]
 have e2:seq1 prog x e.pc=toldE (Go.Proofs.YtdmhfogegfmnfaaGreatDoor.storeE { nw prog e.pc with addr:=e.addr,known:=true } (rg x.1 (nw prog e.pc).i.r2)):=by
  rw[seq_store a1 (by rw[← hi];exact hk)]
  simp only[e1]
  rw[if_neg (by omega)]
 have e3:Go.Proofs.YtdmhfogegfmnfaaGreatDoor.storeE { nw prog e.pc with addr:=e.addr,known:=true } (rg x.1 (nw prog e.pc).i.r2)={ nw prog e.pc with addr:=e.addr,known:=true,is:=3,value:=lowU (rg x.1 (nw prog e.pc).i.r2) (sz (nw prog e.pc).i.op) }:=by
  unfold Go.Proofs.YtdmhfogegfmnfaaGreatDoor.storeE
  rw[if_neg]
  rintro(q|q|q)
  ·exact q (by rw[← hi];exact hk)
  ·cases q
  ·exact q a2
 rw[e3,told_store_eq (e:={ nw prog e.pc with addr:=e.addr,known:=true,is:=3,value:=lowU (rg x.1 (nw prog e.pc).i.r2) (sz (nw prog e.pc).i.op) }) a1 (by show kd (nw prog e.pc).i.op=4;rw[← hi];exact hk)]at e2
 simp only[nw_pc,← hi]at e2
 have hsz:sz e.i.op=1∨sz e.i.op=2∨sz e.i.op=4:=by
  unfold okAt at hok
  simp only[decide_eq_true_eq]at hok
  exact hok.1
 refine⟨by rw[e2],bytesL (lowU (rg x.1 e.i.r2) (sz e.i.op)) (sz e.i.op).toNat,by simp[bytesL,byOf],?_,fun q=>?_⟩
 ·unfold fwd
  rw[e2]
  show overM x.2 (storedS _).toList=_
  have:storedS (⟨e.pc,addU e.pc 4,wr e.i.op e.i.rd,lowU (rg x.1 e.i.r2) (sz e.i.op),e.addr,sz e.i.op,true,0,0⟩:St)=some ⟨e.addr,bytesL (lowU (rg x.1 e.i.r2) (sz e.i.op)) (sz e.i.op).toNat⟩:=by
   unfold storedS
   rw[if_neg]
   ·unfold bytesS
    simp only
    rw[if_neg (by omega)]
   ·rintro(q|q|q)
    ·cases q
    ·exact q rfl
    ·obtain⟨q1,q2,q3⟩:=q
     rcases hsz with z|z|z
     ·exact q1 z
     ·exact q2 z
     ·exact q3 z
  rw[this]
  rfl
 ·have:=h.told (.inr q)
  rw[e2,told_store_eq hh hk]at this
  injection this with _ _ _ g
  rw[g]
theorem EI.nostores{prog:List U}{x:List U×By}{e:En}(h:EI prog x e)(hk:kd e.i.op≠4):(fwd prog x e.pc).2=x.2:=by
 have hi:=h.i
 have:storedS (seq1 prog x e.pc)=none:=by
  unfold seq1
  apply told_nostore
  right
  rw[(finE_i _ _ _ _).1,← hi]
  exact hk
 unfold fwd
 rw[this]
 rfl
def xa(prog:List U)(x:List U×By)(l:List En)(i:Nat):List U×By:=stP prog x ((l.take i).map (·.pc))
def Lv(prog:List U)(x:List U×By)(l:List En)(i:Nat):Prop:=∀ j f,j<i→l[j]?=some f→(seq1 prog (xa prog x l j) f.pc).halt=0
def Nl(l:List En)(i:Nat)(e:En):Prop:=∀ j f,j<i→l[j]?=some f→kd f.i.op=4→f.known=true∧f.halt=0∧lapsB f.addr (sz f.i.op) e.addr (sz e.i.op)=false
structure RI(prog:List U)(x:List U×By)(l:List En):Prop where
 ei:∀ i e,l[i]?=some e→Lv prog x l i→EI prog (xa prog x l i) e
 nl:∀ i e,l[i]?=some e→e.is=2→Nl l i e
section
variable {prog:List U} {x:List U×By} {l:List En}
theorem xa_succ{i:Nat}{e:En}(h:l[i]?=some e):xa prog x l (i+1)=fwd prog (xa prog x l i) e.pc:=by
 obtain⟨h1,h2⟩:=List.getElem?_eq_some_iff.1 h
 unfold xa
 rw[List.take_succ_eq_append_getElem h1,List.map_append,stP_app,h2]
 rfl
theorem xa_congr{l':List En}(h:l'.map (·.pc)=l.map (·.pc))(i:Nat):xa prog x l' i=xa prog x l i:=by
 unfold xa
 rw[List.map_take,List.map_take,h]
theorem xa_app(r:List En){i:Nat}(h:i≤l.length):xa prog x (l++r) i=xa prog x l i:=by
 unfold xa
 rw[List.take_append_of_le_length h]
theorem xa_take{i n:Nat}(h:i≤n):xa prog x (l.take n) i=xa prog x l i:=by
 unfold xa
 rw[List.take_take,Nat.min_eq_left h]
theorem xa_len(i:Nat):(xa prog x l i).2.length=x.2.length:=stP_len prog _ x
theorem apply_len(regs:List U)(s:St):(applyR regs s).length=regs.length:=by
 unfold applyR
 split<;>simp
theorem stP_regs(prog:List U):∀(l:List U) (x:List U×By),(stP prog x l).1.length=x.1.length
 | [],x=>rfl
 | p::l,x=>(stP_regs prog l _).trans (apply_len _ _)
theorem xa_regs(i:Nat):(xa prog x l i).1.length=x.1.length:=stP_regs prog _ x
theorem Lv.le{i j:Nat}(h:Lv prog x l i)(hj:j≤i):Lv prog x l j:=fun k f hk hf=>h k f (by omega) hf
theorem Lv.congr{l':List En}(h:l'.map (·.pc)=l.map (·.pc)){i:Nat}:Lv prog x l' i→Lv prog x l i:=by
 intro H j f hj hf
 have h1:(l'.map (·.pc))[j]?=some f.pc:=by rw[h,List.getElem?_map,hf];rfl
 rw[List.getElem?_map]at h1
 obtain⟨g,hg,hp⟩:=Option.map_eq_some_iff.1 h1
 have:=H j g hj hg
 rw[xa_congr h,hp]at this
 exact this
theorem RI.upd{l':List En}(h:RI prog x l)(hl:l'.length=l.length)
 (hu:∀ i e e',l[i]?=some e→l'[i]?=some e'→e'.pc=e.pc∧e'.i=e.i∧(Lv prog x l i→EI prog (xa prog x l i) e→EI prog (xa prog x l i) e')∧(e'.is=2→e'.addr=e.addr∧(e.is=2∨Nl l i e))∧(kd e.i.op=4→e.known=true→e.halt=0→e'.known=true∧e'.halt=0∧e'.addr=e.addr)):RI prog x l':=by
 have hp:l'.map (·.pc)=l.map (·.pc):=by
  apply List.ext_getElem?
  intro i
  rw[List.getElem?_map,List.getElem?_map]
  rcases Nat.lt_or_ge i l.length with c|c
  ·have h1:=List.getElem?_eq_getElem c
   have h2:=List.getElem?_eq_getElem (show i<l'.length by omega)
   rw[h1,h2]
   simp only[Option.map_some]
   rw[(hu i _ _ h1 h2).1]
  ·rw[List.getElem?_eq_none c,List.getElem?_eq_none (by omega)]
 have hback:∀ {i:Nat} {e':En},l'[i]?=some e'→∃ e,l[i]?=some e:=fun {i} {e'} q=>⟨_,List.getElem?_eq_getElem (by have:=(List.getElem?_eq_some_iff.1 q).1;omega)⟩
 refine⟨fun i e' he' hv=>?_,fun i e' he' h2=>?_⟩
 ·obtain⟨e,he⟩:=hback he'
  have hv':Lv prog x l i:=hv.congr hp
  rw[xa_congr hp]
  exact(hu i e e' he he').2.2.1 hv' (h.ei i e he hv')
 ·obtain⟨e,he⟩:=hback he'
  obtain⟨_,q2,_,q4,_⟩:=hu i e e' he he'
  obtain⟨q5,q6⟩:=q4 h2
  have hN:Nl l i e:=by
   rcases q6 with q|q
   ·exact h.nl i e he q
   ·exact q
  intro j f' hj hf' hk
  obtain⟨f,hf⟩:=hback hf'
  obtain⟨_,r2,_,_,r5⟩:=hu j f f' hf hf'
  rw[r2]at hk
  obtain⟨n1,n2,n3⟩:=hN j f hj hf hk
  obtain⟨m1,m2,m3⟩:=r5 hk n1 n2
  exact⟨m1,m2,by rw[m3,r2,q5,q2];exact n3⟩
theorem RI.set(h:RI prog x l){i:Nat}{e e':En}(he:l[i]?=some e)(h1:e'.pc=e.pc)(h2:e'.i=e.i)(h3:Lv prog x l i→EI prog (xa prog x l i) e→EI prog (xa prog x l i) e')(h4:e'.is=2→e'.addr=e.addr∧(e.is=2∨Nl l i e))(h5:kd e.i.op=4→e.known=true→e.halt=0→e'.known=true∧e'.halt=0∧e'.addr=e.addr):RI prog x (l.set i e'):=by
 refine h.upd (List.length_set ..) fun k f f' hf hf'=>?_
 by_cases c:i=k
 ·subst c
  rw[he]at hf
  cases hf
  rw[List.getElem?_set_self (List.getElem?_eq_some_iff.1 he).1]at hf'
  cases hf'
  exact⟨h1,h2,h3,h4,h5⟩
 ·rw[List.getElem?_set_ne c,hf]at hf'
  cases hf'
  exact⟨rfl,rfl,fun _ q=>q,fun q=>⟨rfl,.inl q⟩,fun _ a b=>⟨a,b,rfl⟩⟩
theorem RI.take(h:RI prog x l)(n:Nat):RI prog x (l.take n):=by
 have hb:∀ {i:Nat} {e:En},(l.take n)[i]?=some e→i<n∧l[i]?=some e:=fun {i} {e} q=>by
  rw[List.getElem?_take]at q
  split at q
  ·rename_i c;exact⟨c,q⟩
  ·cases q
 refine⟨fun i e he hv=>?_,fun i e he h2 j f hj hf hk=>?_⟩
 ·obtain⟨hi,he⟩:=hb he
  rw[xa_take (by omega)]
  refine h.ei i e he fun j f hj hf=>?_
  have:=hv j f hj (by rw[List.getElem?_take,if_pos (by omega)];exact hf)
  rw[xa_take (by omega)]at this
  exact this
 ·exact h.nl i e (hb he).2 h2 j f hj (hb hf).2 hk
theorem RI.tail{e:En}(h:RI prog x (e::l))(h0:(seq1 prog x e.pc).halt=0):RI prog (fwd prog x e.pc) l:=by
 refine⟨fun i f hf hv=>?_,fun i f hf h2 j g hj hg hk=>h.nl (i+1) f hf h2 (j+1) g (by omega) hg hk⟩
 refine h.ei (i+1) f hf fun j g hj hg=>?_
 cases j with
 | zero=>cases hg;exact h0
 | succ j=>exact hv j g (by omega) hg
theorem RI.snoc(h:RI prog x l){e:En}(he:∀ y,EI prog y e)(h2:e.is≠2):RI prog x (l++[e]):=by
 have hb:∀ {i:Nat} {f:En},(l++[e])[i]?=some f→(i<l.length∧l[i]?=some f)∨(i=l.length∧f=e):=fun {i} {f} q=>by
  rcases Nat.lt_or_ge i l.length with c|c
  ·rw[List.getElem?_append_left c]at q;exact .inl ⟨c,q⟩
  ·rw[List.getElem?_append_right c]at q
   have h0:i-l.length=0:=by
    have:=(List.getElem?_eq_some_iff.1 q).1
    simpa using this
   rw[h0]at q
   cases q
   exact .inr ⟨by omega,rfl⟩
 refine⟨fun i f hf hv=>?_,fun i f hf q2 j g hj hg hk=>?_⟩
 ·rcases hb hf with⟨c,hf⟩|⟨c,rfl⟩
  ·rw[xa_app _ (by omega)]
   refine h.ei i f hf fun j g hj hg=>?_
   have:=hv j g hj (by rw[List.getElem?_append_left (by omega)];exact hg)
   rw[xa_app _ (by omega)]at this
   exact this
  ·exact he _
 ·rcases hb hf with⟨c,hf⟩|⟨c,rfl⟩
  ·rcases hb hg with⟨c',hg⟩|⟨c',rfl⟩
   ·exact h.nl i f hf q2 j g hj hg hk
   ·omega
  ·exact absurd q2 h2
theorem rg_ne{regs:List U}{s:St}{r:Int}(h:s.rd≠r)(hr:1≤r):rg (applyR regs s) r=rg regs r:=by
 unfold applyR
 split
 ·rename_i c
  unfold rg
  rw[if_neg (by omega),if_neg (by omega),List.getD_eq_getElem?_getD,List.getD_eq_getElem?_getD,List.getElem?_set_ne (by omega)]
 ·rfl
theorem rg_eq{regs:List U}{s:St}{r:Int}(h:s.rd=r)(hr:1≤r)(hr':r≤31)(h0:s.halt=0)(hl:regs.length=32):rg (applyR regs s) r=s.value:=by
 unfold applyR
 rw[if_pos (by omega)]
 unfold rg
 rw[if_neg (by omega),List.getD_eq_getElem?_getD,h,List.getElem?_set_self (by omega)]
 rfl
theorem RI.maker(h:RI prog x l)(h32:x.1.length=32){r:Int}(hr:1≤r)(hr':r≤31):∀ k,k≤l.length→Lv prog x l k→
 (makerR l r k<0∧rg (xa prog x l k).1 r=rg x.1 r)∨∃(m:Nat) (e:En),makerR l r k=m∧m<k∧l[m]?=some e∧wr e.i.op e.i.rd=r∧rg (xa prog x l k).1 r=(seq1 prog (xa prog x l m) e.pc).value
 | 0,_,_=>.inl ⟨by unfold makerR;decide,rfl⟩
 | k+1,hk,hv=>by
  have he:=List.getElem?_eq_getElem (show k<l.length by omega)
  obtain⟨e,hE⟩:∃ e,l[k]?=some e:=⟨_,he⟩
  have hg:l.getD k default=e:=by rw[List.getD_eq_getElem?_getD,hE];rfl
  have h0:=hv k e (by omega) hE
  have hei:=h.ei k e hE (hv.le (by omega))
  have hrd:=seq_rd prog (xa prog x l k) e.pc
  rw[if_neg (by omega),← hei.i]at hrd
  rw[xa_succ hE]
  unfold makerR
  rw[hg]
  by_cases c:wr e.i.op e.i.rd=r
  ·rw[if_pos c]
   refine .inr ⟨k,e,rfl,by omega,hE,c,?_⟩
   exact rg_eq (hrd.trans c) hr hr' h0 ((xa_regs k).trans h32)
  ·rw[if_neg c]
   have hne:rg (fwd prog (xa prog x l k) e.pc).1 r=rg (xa prog x l k).1 r:=rg_ne (by rw[hrd];exact c) hr
   rw[hne]
   rcases RI.maker h h32 hr hr' k (by omega) (hv.le (by omega))with q|⟨m,f,q1,q2,q3⟩
   ·exact .inl q
   ·exact .inr ⟨m,f,q1,by omega,q3⟩
theorem RI.read(h:RI prog x l)(h32:x.1.length=32){i:Nat}(hi:i≤l.length)(hv:Lv prog x l i){r:Int}(hr:(readE l x.1 i r).2=true):(readE l x.1 i r).1=rg (xa prog x l i).1 r:=by
 unfold readE at hr ⊢
 by_cases c0:r=0
 ·rw[if_pos c0]
  unfold rg
  rw[if_pos c0]
 ·rw[if_neg c0]at hr ⊢
  by_cases c1:r<0∨31<r
  ·rw[if_pos c1]at hr;cases hr
  ·rw[if_neg c1]at hr ⊢
   have hm:makerE l i r=makerR l r i:=by
    unfold makerE
    rw[if_neg (by omega)]
    congr 1
    omega
   rw[hm]at hr ⊢
   simp only at hr ⊢
   rcases h.maker h32 (show 1≤r by omega) (by omega) i hi hv with⟨q1,q2⟩|⟨m,e,q1,q2,q3,q4,q5⟩
   ·rw[if_pos q1,q2]
    unfold rg
    rw[if_neg c0]
   ·rw[q1]at hr ⊢
    rw[if_neg (by omega)]at hr ⊢
    have hg:l.getD ((m:Nat):Int).toNat default=e:=by rw[List.getD_eq_getElem?_getD,Int.toNat_natCast,q3];rfl
    rw[hg]at hr ⊢
    by_cases c2:e.is=3∧e.halt=0
    ·rw[if_pos c2,q5]
     have hei:=h.ei m e q3 (hv.le (by omega))
     rw[← hei.told (.inr c2.1),told_value c2.2 (by omega)]
    ·rw[if_neg c2]at hr;cases hr
theorem RI.both(h:RI prog x l)(h32:x.1.length=32){i:Nat}{e:En}(he:l[i]?=some e)(hv:Lv prog x l i)(hb:(bothE l x.1 i).2.2=true):(bothE l x.1 i).1=rg (xa prog x l i).1 e.i.r1∧(bothE l x.1 i).2.1=rg (xa prog x l i).1 e.i.r2:=by
 have hi:=(List.getElem?_eq_some_iff.1 he).1
 have hg:l.getD ((i:Nat):Int).toNat default=e:=by rw[List.getD_eq_getElem?_getD,Int.toNat_natCast,he];rfl
 unfold bothE at hb ⊢
 rw[if_neg (by omega)]at hb ⊢
 simp only[hg,Bool.and_eq_true]at hb ⊢
 exact⟨h.read h32 (by omega) hv hb.1,h.read h32 (by omega) hv hb.2⟩
theorem both_1{regs:List U}{i:Nat}{e:En}(he:l[i]?=some e):(bothE l regs i).1=(readE l regs i e.i.r1).1:=by
 have hi:=(List.getElem?_eq_some_iff.1 he).1
 have hg:l.getD ((i:Nat):Int).toNat default=e:=by rw[List.getD_eq_getElem?_getD,Int.toNat_natCast,he];rfl
 unfold bothE
 rw[if_neg (by omega)]
 simp only[hg]
theorem read_ext{m m':By}{a:U}{n:Int}(hl:m'.length=m.length)(h:∀ y,a.v.toNat≤y→y<a.v.toNat+n.toNat→m'[y]?=m[y]?):readM m' a n=readM m a n:=by
 unfold readM
 rw[hl]
 split
 ·congr 1
  unfold cutB
  apply List.ext_getElem?
  intro k
  rw[List.getElem?_take,List.getElem?_take,List.getElem?_drop,List.getElem?_drop]
  split
  ·exact h _ (by omega) (by omega)
  ·rfl
 ·rfl
theorem RI.away(h:RI prog x l){a:U}{n:Int}(hok:okAt x.2.length a n=true):∀ {i:Nat},i≤l.length→Lv prog x l i→(∀ j f,j<i→l[j]?=some f→kd f.i.op=4→f.known=true∧f.halt=0∧lapsB f.addr (sz f.i.op) a n=false)→
 ∀ y,a.v.toNat≤y→y<a.v.toNat+n.toNat→(xa prog x l i).2[y]?=x.2[y]?
 | 0,_,_,_,y,_,_=>rfl
 | i+1,hi,hv,hn,y,h1,h2=>by
  obtain⟨e,hE⟩:∃ e,l[i]?=some e:=⟨_,List.getElem?_eq_getElem (show i<l.length by omega)⟩
  have ih:=RI.away h hok (i:=i) (by omega) (hv.le (by omega)) (fun j f hj=>hn j f (by omega)) y h1 h2
  have hei:=h.ei i e hE (hv.le (by omega))
  rw[xa_succ hE,← ih]
  by_cases hk:kd e.i.op=4
  ·obtain⟨k1,k2,k3⟩:=hn i e (by omega) hE hk
   obtain⟨_,d,d1,d2,_⟩:=hei.stores hk k1
   obtain⟨_,o1,_⟩:=hei.addr (.inr hk) k1
   unfold okAt at hok o1
   unfold lapsB at k3
   simp only[decide_eq_true_eq,decide_eq_false_iff_not]at hok o1 k3
   have a0:=a.lo
   have e0:=e.addr.lo
   have hlen:=xa_len (prog:=prog) (x:=x) (l:=l) i
   rw[d2,ov_at _ _ _ (by omega)]
   show((none:Option UInt8).or (bt1 ⟨e.addr,d⟩ y)).or _=_
   have:bt1 ⟨e.addr,d⟩ y=none:=by
    unfold bt1
    simp only
    split
    ·exact List.getElem?_eq_none (by omega)
    ·rfl
   rw[this]
   rfl
  ·rw[hei.nostores hk]
def Hist(B:By):List Sd→By→Prop
 | [],M=>M=B
 | s::S,M=>∃(M0 d:By),Hist B S M0∧(d.length:Int)=s.size∧M=overM M0 [⟨s.addr,d⟩]∧(s.there=true→d=s.data)
theorem Hist.len{B:By}:∀ {S:List Sd} {M:By},Hist B S M→M.length=B.length
 | [],M,h=>by rw[h]
 | s::S,M,⟨M0,d,h1,_,h3,_⟩=>by rw[h3,ov_len,h1.len]
theorem Hist.seek{B:By}{a:U}{n:Int}{b:By}(hok:okAt B.length a n=true):∀ {S:List Sd} {M:By},Hist B S M→seekS a n S=(1,b)→(readM M a n).1=b
 | [],M,h,hs=>by unfold seekS at hs;cases hs
 | s::S,M,⟨M0,d,h1,h2,h3,h4⟩,hs=>by
  have hl:=h1.len
  have hok':=hok
  unfold okAt at hok
  simp only[decide_eq_true_eq]at hok
  have a0:=a.lo
  have s0:=s.addr.lo
  unfold seekS at hs
  split at hs
  ·rename_i c
   have ih:=h1.seek hok' hs
   rw[← ih]
   congr 1
   refine read_ext (by rw[h3,ov_len]) fun y y1 y2=>?_
   unfold lapsB at c
   simp only[decide_eq_false_iff_not]at c
   rw[h3,ov_at _ _ _ (by omega)]
   show((none:Option UInt8).or (bt1 ⟨s.addr,d⟩ y)).or _=_
   have:bt1 ⟨s.addr,d⟩ y=none:=by
    unfold bt1
    simp only
    split
    ·exact List.getElem?_eq_none (by omega)
    ·rfl
   rw[this]
   rfl
  ·split at hs
   ·cases hs
   ·rename_i c1 c2
    cases hs
    have hh:holdsB s.addr s.size a n=true:=by
     cases q:holdsB s.addr s.size a n with
     | true=>rfl
     | false=>exact absurd (.inl q) c2
    have ht:s.there=true:=by
     cases q:s.there with
     | true=>rfl
     | false=>exact absurd (.inr q) c2
    unfold holdsB at hh
    simp only[decide_eq_true_eq]at hh
    have hd:=h4 ht
    unfold readM
    rw[if_pos (by rw[h3,ov_len,hl];exact hok')]
    simp only
    rw[h3,← hd]
    unfold cutB
    apply List.ext_getElem?
    intro k
    rw[List.getElem?_take,List.getElem?_take,List.getElem?_drop,List.getElem?_drop]
    split
    ·rename_i ck
     have hsz:a.v+n≤s.addr.v+s.size:=by
      split at hh
      ·omega
      ·omega
     rw[ov_at _ _ _ (by omega)]
     show((none:Option UInt8).or (bt1 ⟨s.addr,d⟩ (a.v.toNat+k))).or _=_
     have e1:bt1 ⟨s.addr,d⟩ (a.v.toNat+k)=d[(a.v-s.addr.v).toNat+k]?:=by
      unfold bt1
      simp only
      rw[if_pos (by omega),show a.v.toNat+k-s.addr.v.toNat=(a.v-s.addr.v).toNat+k by omega]
     rw[e1,List.getElem?_eq_getElem (by omega)]
     rfl
    ·rfl
theorem seek_no{a:U}{n:Int}{b:By}:∀ {S:List Sd},seekS a n S=(2,b)→∀ s∈S,lapsB s.addr s.size a n=false
 | [],_,s,hs=>by cases hs
 | s::S,h,t,ht=>by
  unfold seekS at h
  split at h
  ·rename_i c
   rcases List.mem_cons.1 ht with q|q
   ·rw[q];exact c
   ·exact seek_no h t q
  ·split at h<;>cases h
theorem back_base(B:By):∀(k:Nat) (s:List Pt),s.length=k→Hist B (s.map sdP).reverse (overM B s)
 | 0,s,h=>by rw[List.length_eq_zero_iff.1 h];rfl
 | k+1,s,h=>by
  have hne:s≠[]:=fun q=>by rw[q]at h;cases h
  have e:=(List.dropLast_concat_getLast hne).symm
  rw[e,List.map_append,List.reverse_append,ov_app]
  refine⟨overM B s.dropLast,(s.getLast hne).data,back_base B k _ (by simp;omega),rfl,rfl,fun _=>rfl⟩
theorem back_snoc(l:List En)(e:En)(s:List Pt):backS (l++[e]) s=if kd e.i.op=4 then sdE e::backS l s else backS l s:=by
 unfold backS
 rw[List.filter_append]
 by_cases h:kd e.i.op=4
 ·rw[if_pos h];simp[h]
 ·rw[if_neg h];simp[h]
theorem RI.hist(h:RI prog x l){B:By}{s:List Pt}(hx:x.2=overM B s):∀ {i:Nat},i≤l.length→Lv prog x l i→(∀ j f,j<i→l[j]?=some f→kd f.i.op=4→f.known=true)→Hist B (backS (l.take i) s) (xa prog x l i).2
 | 0,_,_,_=>by
  show Hist B (backS [] s) x.2
  rw[hx]
  exact back_base B _ s rfl
 | i+1,hi,hv,hn=>by
  obtain⟨e,hE⟩:∃ e,l[i]?=some e:=⟨_,List.getElem?_eq_getElem (show i<l.length by omega)⟩
  have ih:=RI.hist h hx (i:=i) (by omega) (hv.le (by omega)) (fun j f hj=>hn j f (by omega))
  have hei:=h.ei i e hE (hv.le (by omega))
  obtain⟨g1,g2⟩:=List.getElem?_eq_some_iff.1 hE
  rw[xa_succ hE,List.take_succ_eq_append_getElem g1,g2,back_snoc]
  by_cases hk:kd e.i.op=4
  ·rw[if_pos hk]
   have hkn:=hn i e (by omega) hE hk
   obtain⟨_,d,d1,d2,d3⟩:=hei.stores hk hkn
   obtain⟨_,o1,_⟩:=hei.addr (.inr hk) hkn
   have hs:=sz_okAt o1
   refine⟨_,d,ih,by show(d.length:Int)=sz e.i.op;omega,d2,fun q=>?_⟩
   have q':decide (e.is=3)=true:=q
   exact d3 (by simpa using q')
  ·rw[if_neg hk,hei.nostores hk]
   exact ih
end
def st(c:Co):List U×By:=(c.regs,memV c)
def ppath(l:List En):List (U×U×In):=l.map fun e=>(e.pc,e.guess,e.i)
structure Fr(c c':Co):Prop where
 conf:c'.conf=c.conf
 prog:c'.prog=c.prog
 regs:c'.regs=c.regs
 fetch:c'.fetch=c.fetch
 stop:c'.stop=c.stop
 fetched:c'.fetched=c.fetched
 halt:c'.halt=c.halt
 retired:c'.retired=c.retired
 mem:memV c'=memV c
 path:ppath c'.rob=ppath c.rob
theorem Fr.refl(c:Co):Fr c c:=⟨rfl,rfl,rfl,rfl,rfl,rfl,rfl,rfl,rfl,rfl⟩
theorem Fr.trans{a b c:Co}(h:Fr a b)(g:Fr b c):Fr a c:=
 ⟨g.conf.trans h.conf,g.prog.trans h.prog,g.regs.trans h.regs,g.fetch.trans h.fetch,g.stop.trans h.stop,g.fetched.trans h.fetched,g.halt.trans h.halt,g.retired.trans h.retired,g.mem.trans h.mem,g.path.trans h.path⟩
theorem Fr.st{c c':Co}(h:Fr c c'):st c'=st c:=by unfold Go.Proofs.YtdmhfogegfmnfaaGreatDoor.st;rw[h.regs,h.mem]
theorem set_same{α:Type}{l:List α}{i:Nat}{e:α}(h:l[i]?=some e):l.set i e=l:=by
 obtain⟨h1,h2⟩:=List.getElem?_eq_some_iff.1 h
 rw[← h2]
 exact List.set_getElem_self h1
theorem path_set{l:List En}{i:Nat}{e e':En}(h:l[i]?=some e)(h1:e'.pc=e.pc)(h2:e'.guess=e.guess)(h3:e'.i=e.i):ppath (l.set i e')=ppath l:=by
 unfold ppath
 rw[List.map_set,h1,h2,h3]
 exact set_same (by rw[List.getElem?_map,h];rfl)
theorem Fr.setE{c:Co}{i:Nat}{e e':En}(h:c.rob[i]?=some e)(h1:e'.pc=e.pc)(h2:e'.guess=e.guess)(h3:e'.i=e.i):Fr c (setE c i e'):=
 ⟨rfl,rfl,rfl,rfl,rfl,rfl,rfl,rfl,rfl,path_set h h1 h2 h3⟩
theorem Fr.ask(c:Co)(kind:Int)(line:U)(d:By)(h:kind≠4):Fr c (askC c kind line d):=
 ⟨rfl,rfl,rfl,rfl,rfl,rfl,rfl,rfl,memV_ask _ _ _ h,rfl⟩
section
variable {prog:List U} {x:List U×By} {l:List En}
theorem any_off{l:List En}{i:Nat}(h:¬ (l.take i).any (fun f=>decide (kd f.i.op=4)&&(!f.known||!decide (f.halt=0)))=true):∀ j f,j<i→l[j]?=some f→kd f.i.op=4→f.known=true∧f.halt=0:=by
 intro j f hj hf hk
 have hm:f∈l.take i:=List.mem_of_getElem? (by rw[List.getElem?_take,if_pos hj];exact hf)
 simp only[List.any_eq_true,not_exists,not_and,Bool.and_eq_true,Bool.or_eq_true,Bool.not_eq_true',decide_eq_true_eq,decide_eq_false_iff_not]at h
 have:=h f hm hk
 constructor
 ·cases q:f.known with
  | true=>rfl
  | false=>exact absurd (.inl q) this
 ·rcases Decidable.em (f.halt=0)with q|q
  ·exact q
  ·exact absurd (.inr q) this
theorem RI.takes(h:RI prog x l){B:By}{s:List Pt}(hx:x.2=overM B s){i:Nat}{e:En}(he:l[i]?=some e)(hv:Lv prog x l i)(hk:e.known=true)(h1:(decideR l s i).1=1):(decideR l s i).2=(readM (xa prog x l i).2 e.addr (sz e.i.op)).1:=by
 have hg:l.getD i default=e:=by rw[List.getD_eq_getElem?_getD,he];rfl
 unfold decideR at h1 ⊢
 simp only[hg]at h1 ⊢
 split at h1
 ·cases h1
 ·rename_i k3
  split at h1
  ·cases h1
  ·rename_i k4
   rw[if_neg k3,if_neg k4]
   have hi:=(List.getElem?_eq_some_iff.1 he).1
   have hk3:kd e.i.op=3:=by omega
   obtain⟨_,hok,_⟩:=(h.ei i e he hv).addr (.inl hk3) hk
   have H:=h.hist hx (i:=i) (by omega) hv (fun j f hj hf q=>(any_off k4 j f hj hf q).1)
   exact(H.seek (by rw[← ov_len s B,← hx,← xa_len (prog:=prog) (l:=l) i];exact hok) (Prod.ext h1 rfl)).symm
theorem decide_mem{s:List Pt}{i:Nat}{e:En}(he:l[i]?=some e)(h2:(decideR l s i).1=2):Nl l i e:=by
 have hg:l.getD i default=e:=by rw[List.getD_eq_getElem?_getD,he];rfl
 unfold decideR at h2
 simp only[hg]at h2
 split at h2
 ·cases h2
 ·split at h2
  ·cases h2
  ·rename_i k3 k4
   intro j f hj hf hk
   obtain⟨q1,q2⟩:=any_off k4 j f hj hf hk
   refine⟨q1,q2,?_⟩
   have hm:f∈l.take i:=List.mem_of_getElem? (by rw[List.getElem?_take,if_pos hj];exact hf)
   refine seek_no (S:=backS (l.take i) s) (b:=(seekS e.addr (sz e.i.op) (backS (l.take i) s)).2) (Prod.ext h2 rfl) (sdE f) ?_
   unfold backS
   refine List.mem_append.2 (.inl (List.mem_reverse.2 (List.mem_map.2 ⟨f,List.mem_filter.2 ⟨hm,by simpa using hk⟩,rfl⟩)))
theorem RI.mems(h:RI prog x l){i:Nat}{e:En}(he:l[i]?=some e)(hv:Lv prog x l i)(hk3:kd e.i.op=3)(hk:e.known=true)(hn:Nl l i e):readM (xa prog x l i).2 e.addr (sz e.i.op)=readM x.2 e.addr (sz e.i.op):=by
 have hi:=(List.getElem?_eq_some_iff.1 he).1
 obtain⟨_,hok,_⟩:=(h.ei i e he hv).addr (.inl hk3) hk
 exact read_ext (xa_len i) (h.away (by rw[← xa_len (prog:=prog) (l:=l) i];exact hok) (by omega) hv hn)
theorem takeE_k(e:En)(b:By):(takeE e b).known=e.known∧(takeE e b).addr=e.addr∧(takeE e b).halt=e.halt∧((takeE e b).is=2→e.is=2):=by
 unfold takeE
 split
 ·exact⟨rfl,rfl,rfl,fun q=>q⟩
 ·exact⟨rfl,rfl,rfl,fun q=>absurd (show(1:Int)=2 from q) (by decide)⟩
theorem RI.takeAt(h:RI prog x l){i:Nat}{e:En}(he:l[i]?=some e)(b:By)(hb:Lv prog x l i→e.known=true→kd e.i.op=3→b=(readM (xa prog x l i).2 e.addr (sz e.i.op)).1):RI prog x (l.set i (takeE e b)):=by
 obtain⟨t1,t2,t3⟩:=takeE_i e b
 obtain⟨u1,u2,u3,u4⟩:=takeE_k e b
 exact h.set he t2 t1 (fun hv q=>q.takeE (hb hv)) (fun q=>⟨u2,.inl (u4 q)⟩) (fun _ a c=>⟨by rw[u1];exact a,by rw[u3];exact c,u2⟩)
theorem RI.waitAt(h:RI prog x l){i:Nat}{e:En}(he:l[i]?=some e)(hk3:kd e.i.op=3)(hk:e.known=true)(hn:Nl l i e):RI prog x (l.set i { e with is:=2 }):=
 h.set he rfl rfl (fun hv q=>q.wait hk3 hk) (fun q=>⟨rfl,.inr hn⟩) (fun _ a c=>⟨a,c,rfl⟩)
theorem load1_ok{c:Co}(h:RI prog (st c) c.rob)(v:Bool){i:Nat}{e:En}(he:c.rob[i]?=some e)(hk3:kd e.i.op=3):RI prog (st c) (load1 v c i).rob∧Fr c (load1 v c i)∧∃ e',(load1 v c i).rob=c.rob.set i e'∧e'.i=e.i∧(e.known=true→e'.known=true):=by
 have hg:c.rob.getD i default=e:=by rw[List.getD_eq_getElem?_getD,he];rfl
 have same:RI prog (st c) c.rob∧Fr c c∧∃ e',c.rob=c.rob.set i e'∧e'.i=e.i∧(e.known=true→e'.known=true):=⟨h,Fr.refl c,e,(set_same he).symm,rfl,fun q=>q⟩
 have hx:(st c).2=overM (underM c.data c.bus c.mem) c.stores:=rfl
 unfold load1
 simp only[hg]
 split
 ·exact same
 ·rename_i hkn
  have hkn:e.known=true:=by simpa using hkn
  have tk:∀ b:By,(Lv prog (st c) c.rob i→e.known=true→kd e.i.op=3→b=(readM (xa prog (st c) c.rob i).2 e.addr (sz e.i.op)).1)→RI prog (st c) (setE c i (takeE e b)).rob∧Fr c (setE c i (takeE e b))∧∃ e',(setE c i (takeE e b)).rob=c.rob.set i e'∧e'.i=e.i∧(e.known=true→e'.known=true):=fun b hb=>by
   obtain⟨t1,t2,t3⟩:=takeE_i e b
   obtain⟨u1,_⟩:=takeE_k e b
   exact⟨h.takeAt he b hb,Fr.setE he t2 t3 t1,_,rfl,t1,fun q=>by rw[u1];exact q⟩
  have wt:Nl c.rob i e→∀ y:Co,y.rob=c.rob→Fr c y→RI prog (st c) (setE y i { e with is:=2 }).rob∧Fr c (setE y i { e with is:=2 })∧∃ e',(setE y i { e with is:=2 }).rob=c.rob.set i e'∧e'.i=e.i∧(e.known=true→e'.known=true):=fun hn y hy hf=>by
   have e1:(setE y i { e with is:=2 }).rob=c.rob.set i { e with is:=2 }:=by show y.rob.set i _=_;rw[hy]
   rw[e1]
   exact⟨h.waitAt he hk3 hkn hn,hf.trans (Fr.setE (e:=e) (by rw[hy];exact he) rfl rfl rfl),_,rfl,rfl,fun q=>q⟩
  split
  ·rename_i d1
   exact tk _ (fun hv a _=>h.takes hx he hv a d1)
  ·rename_i d1
   split
   ·exact same
   ·rename_i d2
    have hN:Nl c.rob i e:=decide_mem (s:=c.stores) he (by omega)
    split
    ·exact tk _ (fun hv a b=>by rw[h.mems he hv b a hN];rfl)
    ·split
     ·exact wt hN c rfl (Fr.refl c)
     ·split
      ·exact wt hN _ rfl (Fr.ask c 1 _ _ (by decide))
      ·exact same
theorem addrE_k(e:En)(n:Int)(a:U):(e.known=true→(addrE e n a)=e)∧((addrE e n a).is=2→addrE e n a=e):=by
 unfold addrE
 split
 ·exact⟨fun _=>rfl,fun _=>rfl⟩
 ·rename_i hc
  have h0:e.is=0:=by omega
  constructor
  ·intro q;exact absurd (.inr (.inr q)) hc
  ·split
   ·intro q
    have q':e.is=2:=q
    omega
   ·intro q
    have q':(3:Int)=2:=q
    omega
theorem RI.addrAt(h:RI prog x l){i:Nat}{e:En}(he:l[i]?=some e){n:Nat}(hn:n=x.2.length){a:U}(hk:kd e.i.op=3∨kd e.i.op=4)(ha:Lv prog x l i→e.known=false→e.is=0→a=rg (xa prog x l i).1 e.i.r1):RI prog x (l.set i (addrE e n a)):=by
 obtain⟨t1,t2,t3⟩:=addrE_i e n a
 obtain⟨u1,u2⟩:=addrE_k e n a
 refine h.set he t2 t1 (fun hv q=>?_) (fun q=>?_) (fun _ b c=>?_)
 ·have:=q.addrE hk (a:=a) (fun b c=>ha hv b c)
  rw[xa_len,← hn]at this
  exact this
 ·have:=u2 q
  rw[this]at q ⊢
  exact⟨rfl,.inl q⟩
 ·rw[u1 b];exact⟨b,c,rfl⟩
theorem start1_ok{c:Co}(h:RI prog (st c) c.rob)(h32:c.regs.length=32)(v:Bool){i:Nat}{e:En}(he:c.rob[i]?=some e)
 (hr:kd e.i.op=3∨kd e.i.op=4→e.known=false→e.is=0→(readE c.rob c.regs i e.i.r1).2=true) (hr':¬ (kd e.i.op=3∨kd e.i.op=4)→e.is=0→(bothE c.rob c.regs i).2.2=true):
 RI prog (st c) (start1 v c i).rob∧Fr c (start1 v c i)∧∃ e',(start1 v c i).rob=c.rob.set i e'∧e'.i=e.i∧(e.known=true→e'.known=true):=by
 have hg:c.rob.getD i default=e:=by rw[List.getD_eq_getElem?_getD,he];rfl
 have hi:=(List.getElem?_eq_some_iff.1 he).1
 have hml:c.mem.length=(st c).2.length:=(memV_len c).symm
 unfold start1
 simp only[hg,both_1 he]
 have ad:kd e.i.op=3∨kd e.i.op=4→RI prog (st c) (c.rob.set i (addrE e c.mem.length (readE c.rob c.regs i e.i.r1).1)):=fun hk=>
  h.addrAt he hml hk (fun hv q r=>h.read h32 (by omega) hv (hr hk q r))
 obtain⟨t1,t2,t3⟩:=addrE_i e c.mem.length (readE c.rob c.regs i e.i.r1).1
 obtain⟨u1,u2⟩:=addrE_k e c.mem.length (readE c.rob c.regs i e.i.r1).1
 have hF:Fr c (setE c i (addrE e c.mem.length (readE c.rob c.regs i e.i.r1).1)):=Fr.setE he t2 t3 t1
 split
 ·rename_i k4
  exact⟨ad (.inr k4),hF,_,rfl,t1,fun q=>by rw[u1 q];exact q⟩
 ·rename_i k4
  split
  ·rename_i k3
   obtain⟨l1,l2,e',l3,l4,l5⟩:=load1_ok (c:=setE c i (addrE e c.mem.length (readE c.rob c.regs i e.i.r1).1)) (prog:=prog) (i:=i) (e:=addrE e c.mem.length (readE c.rob c.regs i e.i.r1).1) (by rw[hF.st];exact ad (.inl k3)) v (List.getElem?_set_self hi) (by rw[t1];exact k3)
   rw[hF.st]at l1
   refine⟨l1,hF.trans l2,e',?_,l4.trans t1,fun q=>l5 (by rw[u1 q];exact q)⟩
   rw[l3]
   show(c.rob.set i _).set i e'=_
   rw[List.set_set]
  ·rename_i k3
   obtain⟨s1,s2,s3⟩:=startE_i e (readE c.rob c.regs i e.i.r1).1 (bothE c.rob c.regs i).2.1
   have hno:¬ (kd e.i.op=3∨kd e.i.op=4):=by omega
   have hkn:∀ a b,(startE e a b).known=e.known:=fun a b=>by
    unfold startE
    split
    ·rfl
    ·simp only
     repeat' split
     all_goals rfl
   refine⟨?_,Fr.setE he s2 s3 s1,_,rfl,s1,fun q=>by rw[hkn];exact q⟩
   refine h.set he s2 s1 (fun hv q=>?_) (fun q=>?_) (fun q=>absurd q k4)
   ·by_cases h0:e.is=0
    ·have hb:=h.both h32 he hv (hr' hno h0)
     exact q.start h0 k3 k4 (by rw[← both_1 he];exact hb.1) hb.2
    ·have:startE e (readE c.rob c.regs i e.i.r1).1 (bothE c.rob c.regs i).2.1=e:=by unfold startE;rw[if_pos (.inl h0)]
     rw[this];exact q
   ·by_cases h0:e.is=0
    ·exfalso
     unfold startE at q
     rw[if_neg (by omega)]at q
     simp only at q
     have key:∀(a b:U) (p r s:Int),(workE e a b p r s).is=2→False:=fun a b p r s z=>by
      have z':(1:Int)=2:=z
      omega
     repeat' split at q
     all_goals exact key _ _ _ _ _ q
    ·have:startE e (readE c.rob c.regs i e.i.r1).1 (bothE c.rob c.regs i).2.1=e:=by unfold startE;rw[if_pos (.inl h0)]
     rw[this]at q ⊢
     exact⟨rfl,.inl q⟩
def Kpt(l l':List En):Prop:=l'.length=l.length∧∀(k:Nat) (e e':En),l[k]?=some e→l'[k]?=some e'→e'.i=e.i∧(e.is≠0→e'=e)∧(e.known=true→e'.known=true)
theorem Kpt.refl(l:List En):Kpt l l:=⟨rfl,fun k e e' h h'=>by rw[h]at h';cases h';exact⟨rfl,fun _=>rfl,fun q=>q⟩⟩
theorem Kpt.getD{l l':List En}(h:Kpt l l')(k:Nat):(l'.getD k default).i=(l.getD k default).i∧((l.getD k default).is≠0→l'.getD k default=l.getD k default):=by
 obtain⟨h1,h2⟩:=h
 rcases Nat.lt_or_ge k l.length with c|c
 ·have a:=List.getElem?_eq_getElem c
  have b:=List.getElem?_eq_getElem (show k<l'.length by omega)
  obtain⟨p,q,_⟩:=h2 k _ _ a b
  rw[List.getD_eq_getElem?_getD,List.getD_eq_getElem?_getD,a,b]
  exact⟨p,q⟩
 ·rw[List.getD_eq_getElem?_getD,List.getD_eq_getElem?_getD,List.getElem?_eq_none c,List.getElem?_eq_none (by omega)]
  exact⟨rfl,fun _=>rfl⟩
theorem Kpt.maker{l l':List En}(h:Kpt l l')(r:Int):∀ k,makerR l' r k=makerR l r k
 | 0=>rfl
 | k+1=>by
  unfold makerR
  rw[(h.getD k).1,h.maker r k]
theorem Kpt.read{l l':List En}(h:Kpt l l'){regs:List U}{i r:Int}(hr:(readE l regs i r).2=true):readE l' regs i r=readE l regs i r:=by
 have hm:makerE l' i r=makerE l i r:=by
  unfold makerE
  rw[h.1,h.maker]
 unfold readE at hr ⊢
 rw[hm]
 split
 ·rfl
 ·rename_i c0
  rw[if_neg c0]at hr
  split
  ·rfl
  ·rename_i c1
   rw[if_neg c1]at hr
   simp only at hr ⊢
   split
   ·rfl
   ·rename_i c2
    rw[if_neg c2]at hr
    split at hr
    ·rename_i c3
     rw[(h.getD _).2 (by omega)]
    ·cases hr
theorem Kpt.both{l l':List En}(h:Kpt l l'){regs:List U}{i:Nat}(hr:(bothE l regs i).2.2=true):(bothE l' regs i).2.2=true:=by
 unfold bothE at hr ⊢
 rw[h.1]
 split
 ·rename_i c;rw[if_pos c]at hr;exact hr
 ·rename_i c
  rw[if_neg c]at hr
  simp only[Bool.and_eq_true]at hr ⊢
  rw[(h.getD _).1,h.read hr.1,h.read hr.2]
  exact hr
theorem starts_ok{c:Co}(h32:c.regs.length=32):∀(ps:List (Nat×Bool)) (y:Co),(∀ p∈ps,p.1<c.rob.length∧canB c p.1=true)→RI prog (st c) y.rob→Fr c y→Kpt c.rob y.rob→
 RI prog (st c) (ps.foldl (fun c p=>start1 p.2 c p.1) y).rob∧Fr c (ps.foldl (fun c p=>start1 p.2 c p.1) y)
 | [],y,_,h,hf,_=>⟨h,hf⟩
 | p::ps,y,hp,h,hf,hk=>by
  obtain⟨q1,q2⟩:=hp p mm0
  have a:=List.getElem?_eq_getElem q1
  have b:=List.getElem?_eq_getElem (show p.1<y.rob.length by rw[hk.1];exact q1)
  obtain⟨e,hE⟩:∃ e,c.rob[p.1]?=some e:=⟨_,a⟩
  obtain⟨f,hF⟩:∃ f,y.rob[p.1]?=some f:=⟨_,b⟩
  obtain⟨k1,k2,k3⟩:=hk.2 _ _ _ hE hF
  have hg:c.rob.getD p.1 default=e:=by rw[List.getD_eq_getElem?_getD,hE];rfl
  unfold canB at q2
  simp only[hg,Bool.and_eq_true,decide_eq_true_eq]at q2
  obtain⟨c0,c1⟩:=q2
  have hkn:f.known=false→e.known=false:=fun q=>by
   cases r:e.known with
   | false=>rfl
   | true=>rw[k3 r]at q;cases q
  obtain⟨s1,s2,e',s3,s4,s5⟩:=start1_ok (prog:=prog) (c:=y) (by rw[hf.st];exact h) (by rw[hf.regs];exact h32) p.2 hF
   (fun r1 r2 r3=>by
    rw[k1,hf.regs]
    rw[k1]at r1
    have:(readE c.rob c.regs p.1 e.i.r1).2=true:=by
     rcases r1 with z|z
     ·rw[if_pos z,hkn r2,Bool.false_or]at c1;exact c1
     ·rw[if_neg (by omega),if_pos z,hkn r2]at c1;simpa using c1
    rw[hk.read this];exact this)
   (fun r1 r2=>by
    rw[k1]at r1
    rw[hf.regs]
    rw[if_neg (by omega),if_neg (by omega)]at c1
    exact hk.both c1)
  rw[hf.st]at s1
  refine starts_ok h32 ps _ (fun p hp'=>hp p (List.mem_cons_of_mem _ hp')) s1 (hf.trans s2) ⟨by rw[s3,List.length_set];exact hk.1,fun k g g' hg hg'=>?_⟩
  rw[s3]at hg'
  by_cases z:p.1=k
  ·subst z
   rw[hE]at hg
   cases hg
   rw[List.getElem?_set_self (List.getElem?_eq_some_iff.1 hF).1]at hg'
   cases hg'
   exact⟨s4.trans k1,fun w=>absurd c0 w,fun w=>s5 (k3 w)⟩
  ·rw[List.getElem?_set_ne z]at hg'
   exact hk.2 k g g' hg hg'
end
end Go.Proofs.YtdmhfogegfmnfaaGreatDoor
