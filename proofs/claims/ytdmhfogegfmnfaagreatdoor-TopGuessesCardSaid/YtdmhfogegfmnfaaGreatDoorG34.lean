/- Contracts: three runs in a row, and locals that are made beside them in whatever order. No conditions. Plain: the program's own run, one instruction after the other; what an entry tells of it. No conditions. Plain: the memory that stores, lines and requests make together stays the same where lines come and go. No conditions. Plain: what a cycle's stages make of the memory .. -/
import Derived.Test.YtdmhfogegfmnfaaGreatDoorG01
import Derived.Test.YtdmhfogegfmnfaaGreatDoorG06
import Derived.Test.YtdmhfogegfmnfaaGreatDoorG23
import Derived.Test.YtdmhfogegfmnfaaGreatDoorG33
set_option maxHeartbeats 4000000
set_option linter.unusedVariables false
set_option linter.unusedSimpArgs false
namespace Go.Proofs.YtdmhfogegfmnfaaGreatDoor
open Go.RowKit
theorem Xl.perm{X:Nat→Prop}{l l':List Lc}(h:l'.Perm l):Xl X l'=Xl X l:=by
 funext j
 exact propext ⟨fun q=>⟨q.1,fun x hx=>q.2 x (h.mem_iff.2 hx)⟩,fun q=>⟨q.1,fun x hx=>q.2 x (h.mem_iff.1 hx)⟩⟩
def CV(f:Cf)(pr:List U)(m:By)(K:Nat)(l:List Lc)(w:World)(v:Value):Prop:=∃(c:Co) (s:Ss),v= .agg (coC c s)∧CoR (Xl (fun _=>True) l) w c s∧RunsTo (newCo f pr m) K c
section
variable {f:Cf} {pr:List U} {m:By} {K:Nat} {l l':List Lc} {w w':World} {v:Value}
theorem CV.below(h:CV f pr m K l w v)(hb:Below w.heap.size w w'):CV f pr m K l w' v:=by
 obtain⟨c,s,h1,h2,h3⟩:=h
 exact⟨c,s,h1,h2.below hb,h3⟩
theorem CV.perm(h:CV f pr m K l w v)(hp:l'.Perm l):CV f pr m K l' w v:=by
 unfold CV
 rw[Xl.perm hp]
 exact h
theorem CV.al(h:CV f pr m K l w v){b:Nat}(z:Array Value)(T:TypeId)(hlt:w.heap.size≤b)(hb:Below w.heap.size w w'):CV f pr m K ((b,z,T)::l) w' v:=by
 obtain⟨c,s,h1,h2,h3⟩:=h
 exact⟨c,s,h1,corAl z T h2 hlt hb,h3⟩
end
def al(d:Bool)(b:Nat):List Lc:=if d then [(b,coC coZ ssZ,42)]else []
def als(d1 d2 d3:Bool)(b1 b2 b3:Nat)(B:List Lc):List Lc:=al d1 b1++(al d2 b2++(al d3 b3++B))
theorem als_2(d1 d3:Bool)(b b1 b2 b3:Nat)(B:List Lc):(als d1 true d3 b1 b b3 B).Perm ((b,coC coZ ssZ,42)::als d1 false d3 b1 b2 b3 B):=by
 cases d1
 ·exact List.Perm.refl _
 ·exact List.Perm.swap ..
theorem als_3(d1 d2:Bool)(b b1 b2 b3:Nat)(B:List Lc):(als d1 d2 true b1 b2 b B).Perm ((b,coC coZ ssZ,42)::als d1 d2 false b1 b2 b3 B):=by
 have h:(al d2 b2++(al true b++B)).Perm ((b,coC coZ ssZ,42)::(al d2 b2++(al false b3++B))):=by
  cases d2
  ·exact List.Perm.refl _
  ·exact List.Perm.swap ..
 cases d1
 ·exact h
 ·exact(h.cons _).trans (List.Perm.swap ..)
section
variable {ws:World} {B:List Lc} {f1 f2 f3:Cf} {pr:List U} {m:By} {K:Nat}
structure S6(ws:World)(B:List Lc)(f1 f2 f3:Cf)(pr:List U)(m:By)(K:Nat)(d1 d2 d3:Bool)(k b1 b2 b3:Nat)(v1 v2 v3:Value)(w:World):Prop where
 H:Lo ws w (als d1 d2 d3 b1 b2 b3 B)
 c1:1≤k→CV f1 pr m K (als d1 d2 d3 b1 b2 b3 B) w v1
 c2:2≤k→CV f2 pr m K (als d1 d2 d3 b1 b2 b3 B) w v2
 c3:3≤k→CV f3 pr m K (als d1 d2 d3 b1 b2 b3 B) w v3
theorem S6.base{d1 d2 d3:Bool}{k b1 b2 b3:Nat}{v1 v2 v3:Value}{w:World}(h:S6 ws B f1 f2 f3 pr m K d1 d2 d3 k b1 b2 b3 v1 v2 v3 w):Lo ws w B:=by
 refine Lo.sublist ?_ h.H
 unfold als
 exact(List.sublist_append_right ..).trans ((List.sublist_append_right ..).trans (List.sublist_append_right ..))
theorem S6.more{d1 d2 d3 e1 e2 e3:Bool}{k b1 b2 b3 a1 a2 a3 b:Nat}{v1 v2 v3:Value}{w w':World}(h:S6 ws B f1 f2 f3 pr m K d1 d2 d3 k b1 b2 b3 v1 v2 v3 w)(hlt:w.heap.size≤b)(hb:Below w.heap.size w w')(H:Lo ws w' ((b,coC coZ ssZ,42)::als d1 d2 d3 b1 b2 b3 B))(hp:(als e1 e2 e3 a1 a2 a3 B).Perm ((b,coC coZ ssZ,42)::als d1 d2 d3 b1 b2 b3 B)):
 S6 ws B f1 f2 f3 pr m K e1 e2 e3 k a1 a2 a3 v1 v2 v3 w':=
 ⟨H.perm hp,fun q=>((h.c1 q).al _ _ hlt hb).perm hp,fun q=>((h.c2 q).al _ _ hlt hb).perm hp,fun q=>((h.c3 q).al _ _ hlt hb).perm hp⟩
end
def ptr(b:Nat):Value:=.pointer (some ⟨b,0,none⟩)
def pw(d:Bool)(t:Nat)(v:Value)(a:Act):Act:=if d then a.put (some t) v else a
theorem pw_eval{d:Bool}{t x:Nat}{v:Value}{a:Act}(h:t≠x):(pw d t v a).eval (.tmp x)=a.eval (.tmp x):=by
 cases d
 ·rfl
 ·exact Act.eval_put (a:=a) (dst:=some t) (v:=v) (x:=.tmp x) (fun q hq e=>h ((Option.some.inj hq).trans (by injection e with e;exact e.symm)))
theorem pw_put{d:Bool}{t x:Nat}{v u:Value}{a:Act}(h:t≠x):(pw d t v a).put (some x) u=pw d t v (a.put (some x) u):=by
 cases d
 ·rfl
 ·exact Act.put_comm a (x:=some t) (y:=some x) v u (fun q hq e=>h ((Option.some.inj hq).trans (Option.some.inj e).symm))
def A6(a:Act)(d1 d2 d3:Bool)(k b1 b2 b3:Nat)(v1 v2 v3:Value):Act:=pw (decide (3≤k)) 52 v3 (pw (decide (2≤k)) 47 v2 (pw (decide (1≤k)) 42 v1 (pw d3 15 (ptr b3) (pw d2 14 (ptr b2) (pw d1 13 (ptr b1) a)))))
theorem A6_eval{a:Act}{d1 d2 d3:Bool}{k b1 b2 b3 x:Nat}{v1 v2 v3:Value}(h1:52≠x)(h2:47≠x)(h3:42≠x)(h4:15≠x)(h5:14≠x)(h6:13≠x):(A6 a d1 d2 d3 k b1 b2 b3 v1 v2 v3).eval (.tmp x)=a.eval (.tmp x):=by
 unfold A6
 rw[pw_eval h1,pw_eval h2,pw_eval h3,pw_eval h4,pw_eval h5,pw_eval h6]
theorem A6_1{a:Act}{d2 d3:Bool}{k b b1 b2 b3:Nat}{v1 v2 v3:Value}:(A6 a false d2 d3 k b1 b2 b3 v1 v2 v3).put (some 13) (ptr b)=A6 a true d2 d3 k b b2 b3 v1 v2 v3:=by
 unfold A6
 rw[pw_put (by decide),pw_put (by decide),pw_put (by decide),pw_put (by decide),pw_put (by decide)]
 rfl
theorem A6_2{a:Act}{d1 d3:Bool}{k b b1 b2 b3:Nat}{v1 v2 v3:Value}:(A6 a d1 false d3 k b1 b2 b3 v1 v2 v3).put (some 14) (ptr b)=A6 a d1 true d3 k b1 b b3 v1 v2 v3:=by
 unfold A6
 rw[pw_put (by decide),pw_put (by decide),pw_put (by decide),pw_put (by decide)]
 rfl
theorem A6_3{a:Act}{d1 d2:Bool}{k b b1 b2 b3:Nat}{v1 v2 v3:Value}:(A6 a d1 d2 false k b1 b2 b3 v1 v2 v3).put (some 15) (ptr b)=A6 a d1 d2 true k b1 b2 b v1 v2 v3:=by
 unfold A6
 rw[pw_put (by decide),pw_put (by decide),pw_put (by decide)]
 rfl
def L6(d1 d2 d3:Bool)(k:Nat):Array Bool:=#[true,true,true,true,decide (1≤k),true,true,true,true,decide (2≤k),true,true,true,true,decide (3≤k),d1,d2,d3,false,false,false]
def R6(d1 d2 d3:Bool)(k:Nat):List Nat:=(if k=0 then [4]else if k=1 then [9]else if k=2 then [14]else [])++((if d1 then []else [15])++((if d2 then []else [16])++(if d3 then []else [17])))
theorem fn_run{o:Oper}{a:Act}{w:World}{x1 x2 x3 x4:Operand}{T:Array TypeId}{u1 u2 u3 u4:Value}(ho:o.op= .call { callee:=.value (.func 13),args:=#[x1,x2,x3,x4],argTypes:=T })(e1:a.eval x1=u1)(e2:a.eval x2=u2)(e3:a.eval x3=u3)(e4:a.eval x4=u4):(execOp a.eval o).run Tryz.prog w= .ok (.enter 13 #[u1,u2,u3,u4]) w:=by
 unfold execOp
 simp only[ho,resolve,e1,e2,e3,e4,Sem.run_bind,List.map_toArray,List.map_cons,List.map_nil]
 go_simp<;>rfl
def cnt(d:Bool):Nat:=if d then 0 else 1
section
variable {ws:World} {B:List Lc} {f1 f2 f3:Cf} {pr:List U} {m:By} {K:Nat} {ops:Array Oper} {Q:Exit→Act→World→Prop} {C:World→Prop} {c:Nat} {a:Act} {u1 u2 u3 p s z:Value}
def Runs(ws:World)(f:Cf)(pr:List U)(m:By)(K:Nat)(u p s z:Value):Prop:=∀(l:List Lc) (w:World),Lo ws w l→Calls Tryz.prog 13 #[u,p,s,z] w fun e w'=>∃ v,e= .returned v∧CV f pr m K l w' v∧Below w.heap.size w w'
def CallAt(ops:Array Oper)(i d x1 x2 x3 x4:Nat):Prop:=∃ o,ops[i]?=some o∧o.guard=none∧o.dst=some d∧o.op= .call { callee:=.value (.func 13),args:=#[.tmp x1,.tmp x2,.tmp x3,.tmp x4],argTypes:=#[25,23,9,3] }
def AlAt(ops:Array Oper)(i d:Nat):Prop:=∃ o,ops[i]?=some o∧o.guard=none∧o.dst=some d∧o.op= .alloc 42
theorem reg6(hC:∀ w,Lo ws w B→C w)(hr:∀ d1 d2 d3 k,k≤3→cnt d1+cnt d2+cnt d3+(3-k)≠0→Region.ready .any ops (L6 d1 d2 d3 k)=R6 d1 d2 d3 k)
 (q4:CallAt ops 4 42 38 39 40 41) (q9:CallAt ops 9 47 43 44 45 46) (q14:CallAt ops 14 52 48 49 50 51) (q15:AlAt ops 15 13) (q16:AlAt ops 16 14) (q17:AlAt ops 17 15)
 (e38:a.eval (.tmp 38)=u1) (e39:a.eval (.tmp 39)=p) (e40:a.eval (.tmp 40)=s) (e41:a.eval (.tmp 41)=z)
 (e43:a.eval (.tmp 43)=u2) (e44:a.eval (.tmp 44)=p) (e45:a.eval (.tmp 45)=s) (e46:a.eval (.tmp 46)=z)
 (e48:a.eval (.tmp 48)=u3) (e49:a.eval (.tmp 49)=p) (e50:a.eval (.tmp 50)=s) (e51:a.eval (.tmp 51)=z)
 (r1:Runs ws f1 pr m K u1 p s z) (r2:Runs ws f2 pr m K u2 p s z) (r3:Runs ws f3 pr m K u3 p s z)
 (rest:∀ w b1 b2 b3 v1 v2 v3,S6 ws B f1 f2 f3 pr m K true true true 3 b1 b2 b3 v1 v2 v3 w→wpAnyC Tryz.prog .any ops Q c C 3 (L6 true true true 3) (A6 a true true true 3 b1 b2 b3 v1 v2 v3) w):
 ∀(n:Nat) (d1 d2 d3:Bool) (k b1 b2 b3:Nat) (v1 v2 v3:Value) (w:World),cnt d1+cnt d2+cnt d3+(3-k)=n→k≤3→S6 ws B f1 f2 f3 pr m K d1 d2 d3 k b1 b2 b3 v1 v2 v3 w→
  wpAnyC Tryz.prog .any ops Q c C (n+3) (L6 d1 d2 d3 k) (A6 a d1 d2 d3 k b1 b2 b3 v1 v2 v3) w
 | 0,d1,d2,d3,k,b1,b2,b3,v1,v2,v3,w,hn,hk,h=>by
  obtain rfl:k=3:=by omega
  cases d1<;>cases d2<;>cases d3<;>first|(simp[cnt]at hn;done)|exact rest _ _ _ _ _ _ _ h
 | n+1,d1,d2,d3,k,b1,b2,b3,v1,v2,v3,w,hn,hk,h=>by
  have hR:=hr d1 d2 d3 k hk (by omega)
  have IH:=reg6 hC hr q4 q9 q14 q15 q16 q17 e38 e39 e40 e41 e43 e44 e45 e46 e48 e49 e50 e51 r1 r2 r3 rest n
  refine⟨fun h0=>?_,fun i hi=>?_⟩
  ·exfalso
   rw[hR]at h0
   unfold R6 at h0
   unfold cnt at hn
   simp only[List.append_eq_nil_iff]at h0
   obtain⟨g1,g2,g3,g4⟩:=h0
   obtain rfl:d1=true:=by
    cases d1 with
    | true=>rfl
    | false=>simp at g2
   obtain rfl:d2=true:=by
    cases d2 with
    | true=>rfl
    | false=>simp at g3
   obtain rfl:d3=true:=by
    cases d3 with
    | true=>rfl
    | false=>simp at g4
   have:k=0∨k=1∨k=2:=by simp at hn;omega
   rcases this with q|q|q<;>subst q<;>cases g1
  ·rw[hR]at hi
   unfold R6 at hi
   rcases List.mem_append.1 hi with hi|hi
   ·have hk3:(k=0∧i=4)∨(k=1∧i=9)∨(k=2∧i=14):=by
     split at hi
     ·exact .inl ⟨by assumption,List.mem_singleton.1 hi⟩
     ·split at hi
      ·exact .inr (.inl ⟨by assumption,List.mem_singleton.1 hi⟩)
      ·split at hi
       ·exact .inr (.inr ⟨by assumption,List.mem_singleton.1 hi⟩)
       ·cases hi
    rcases hk3 with⟨rfl,rfl⟩|⟨rfl,rfl⟩|⟨rfl,rfl⟩
    ·obtain⟨o,ho,hg,hd,hop⟩:=q4
     refine wpOp_step ho fun K' hK=>step_fn hg 13 _ _ (r1 _ w h.H) (fn_run hop ((A6_eval (by decide) (by decide) (by decide) (by decide) (by decide) (by decide)).trans e38) ((A6_eval (by decide) (by decide) (by decide) (by decide) (by decide) (by decide)).trans e39) ((A6_eval (by decide) (by decide) (by decide) (by decide) (by decide) (by decide)).trans e40) ((A6_eval (by decide) (by decide) (by decide) (by decide) (by decide) (by decide)).trans e41)) ?_
     rintro e w' ⟨v,rfl,hv,hb⟩
     have hS:S6 ws B f1 f2 f3 pr m K d1 d2 d3 1 b1 b2 b3 v v2 v3 w':=⟨h.H.below hb,fun _=>hv,fun q=>absurd q (by decide),fun q=>absurd q (by decide)⟩
     refine⟨v,rfl,hK _ _ ⟨fun _=>hC _ hS.base,?_⟩⟩
     rw[hd]
     exact IH d1 d2 d3 1 b1 b2 b3 v v2 v3 w' (by omega) (by decide) hS
    ·obtain⟨o,ho,hg,hd,hop⟩:=q9
     refine wpOp_step ho fun K' hK=>step_fn hg 13 _ _ (r2 _ w h.H) (fn_run hop ((A6_eval (by decide) (by decide) (by decide) (by decide) (by decide) (by decide)).trans e43) ((A6_eval (by decide) (by decide) (by decide) (by decide) (by decide) (by decide)).trans e44) ((A6_eval (by decide) (by decide) (by decide) (by decide) (by decide) (by decide)).trans e45) ((A6_eval (by decide) (by decide) (by decide) (by decide) (by decide) (by decide)).trans e46)) ?_
     rintro e w' ⟨v,rfl,hv,hb⟩
     have hS:S6 ws B f1 f2 f3 pr m K d1 d2 d3 2 b1 b2 b3 v1 v v3 w':=⟨h.H.below hb,fun _=>(h.c1 (by decide)).below hb,fun _=>hv,fun q=>absurd q (by decide)⟩
     refine⟨v,rfl,hK _ _ ⟨fun _=>hC _ hS.base,?_⟩⟩
     rw[hd]
     exact IH d1 d2 d3 2 b1 b2 b3 v1 v v3 w' (by omega) (by decide) hS
    ·obtain⟨o,ho,hg,hd,hop⟩:=q14
     refine wpOp_step ho fun K' hK=>step_fn hg 13 _ _ (r3 _ w h.H) (fn_run hop ((A6_eval (by decide) (by decide) (by decide) (by decide) (by decide) (by decide)).trans e48) ((A6_eval (by decide) (by decide) (by decide) (by decide) (by decide) (by decide)).trans e49) ((A6_eval (by decide) (by decide) (by decide) (by decide) (by decide) (by decide)).trans e50) ((A6_eval (by decide) (by decide) (by decide) (by decide) (by decide) (by decide)).trans e51)) ?_
     rintro e w' ⟨v,rfl,hv,hb⟩
     have hS:S6 ws B f1 f2 f3 pr m K d1 d2 d3 3 b1 b2 b3 v1 v2 v w':=⟨h.H.below hb,fun _=>(h.c1 (by decide)).below hb,fun _=>(h.c2 (by decide)).below hb,fun _=>hv⟩
     refine⟨v,rfl,hK _ _ ⟨fun _=>hC _ hS.base,?_⟩⟩
     rw[hd]
     exact IH d1 d2 d3 3 b1 b2 b3 v1 v2 v w' (by omega) (by decide) hS
   ·have hd3:(d1=false∧i=15)∨(d2=false∧i=16)∨(d3=false∧i=17):=by
     cases d1<;>cases d2<;>cases d3<;>simp at hi ⊢ <;> omega
    rcases hd3 with⟨rfl,rfl⟩|⟨rfl,rfl⟩|⟨rfl,rfl⟩
    ·obtain⟨o,ho,hg,hd,hop⟩:=q15
     refine wpOp_step ho fun K' hK=>step_Lal hg (coC coZ ssZ) zero42 h.H hop fun w' b hlt hb H=>?_
     have hS:=h.more hlt hb H (e1:=true) (e2:=d2) (e3:=d3) (a1:=b) (a2:=b2) (a3:=b3) (List.Perm.refl _)
     refine hK _ _ ⟨fun _=>hC _ hS.base,?_⟩
     rw[hd]
     have e:=A6_1 (a:=a) (d2:=d2) (d3:=d3) (k:=k) (b:=b) (b1:=b1) (b2:=b2) (b3:=b3) (v1:=v1) (v2:=v2) (v3:=v3)
     unfold ptr at e
     rw[e]
     exact IH true d2 d3 k b b2 b3 v1 v2 v3 w' (by simp only[cnt]at hn ⊢;simp only[if_true,Bool.false_eq_true,if_false]at hn ⊢;omega) hk hS
    ·obtain⟨o,ho,hg,hd,hop⟩:=q16
     refine wpOp_step ho fun K' hK=>step_Lal hg (coC coZ ssZ) zero42 h.H hop fun w' b hlt hb H=>?_
     have hS:=h.more hlt hb H (e1:=d1) (e2:=true) (e3:=d3) (a1:=b1) (a2:=b) (a3:=b3) (als_2 ..)
     refine hK _ _ ⟨fun _=>hC _ hS.base,?_⟩
     rw[hd]
     have e:=A6_2 (a:=a) (d1:=d1) (d3:=d3) (k:=k) (b:=b) (b1:=b1) (b2:=b2) (b3:=b3) (v1:=v1) (v2:=v2) (v3:=v3)
     unfold ptr at e
     rw[e]
     exact IH d1 true d3 k b1 b b3 v1 v2 v3 w' (by simp only[cnt]at hn ⊢;simp only[if_true,Bool.false_eq_true,if_false]at hn ⊢;omega) hk hS
    ·obtain⟨o,ho,hg,hd,hop⟩:=q17
     refine wpOp_step ho fun K' hK=>step_Lal hg (coC coZ ssZ) zero42 h.H hop fun w' b hlt hb H=>?_
     have hS:=h.more hlt hb H (e1:=d1) (e2:=d2) (e3:=true) (a1:=b1) (a2:=b2) (a3:=b) (als_3 ..)
     refine hK _ _ ⟨fun _=>hC _ hS.base,?_⟩
     rw[hd]
     have e:=A6_3 (a:=a) (d1:=d1) (d2:=d2) (k:=k) (b:=b) (b1:=b1) (b2:=b2) (b3:=b3) (v1:=v1) (v2:=v2) (v3:=v3)
     unfold ptr at e
     rw[e]
     exact IH d1 d2 true k b1 b2 b v1 v2 v3 w' (by simp only[cnt]at hn ⊢;simp only[if_true,Bool.false_eq_true,if_false]at hn ⊢;omega) hk hS
theorem reg6_start{w:World}(H0:Lo ws w B)(rest:∀ w b1 b2 b3 v1 v2 v3,S6 ws B f1 f2 f3 pr m K true true true 3 b1 b2 b3 v1 v2 v3 w→wpAnyC Tryz.prog .any ops Q c C 3 #[true,true,true,true,true,true,true,true,true,true,true,true,true,true,true,true,true,true,false,false,false] ((((((a.put (some 13) (.pointer (some ⟨b1,0,none⟩))).put (some 14) (.pointer (some ⟨b2,0,none⟩))).put (some 15) (.pointer (some ⟨b3,0,none⟩))).put (some 42) v1).put (some 47) v2).put (some 52) v3) w)
 (hC:∀ w,Lo ws w B→C w) (hr:∀ d1 d2 d3 k,k≤3→cnt d1+cnt d2+cnt d3+(3-k)≠0→Region.ready .any ops (L6 d1 d2 d3 k)=R6 d1 d2 d3 k)
 (q4:CallAt ops 4 42 38 39 40 41) (q9:CallAt ops 9 47 43 44 45 46) (q14:CallAt ops 14 52 48 49 50 51) (q15:AlAt ops 15 13) (q16:AlAt ops 16 14) (q17:AlAt ops 17 15)
 (e38:a.eval (.tmp 38)=u1) (e39:a.eval (.tmp 39)=p) (e40:a.eval (.tmp 40)=s) (e41:a.eval (.tmp 41)=z)
 (e43:a.eval (.tmp 43)=u2) (e44:a.eval (.tmp 44)=p) (e45:a.eval (.tmp 45)=s) (e46:a.eval (.tmp 46)=z)
 (e48:a.eval (.tmp 48)=u3) (e49:a.eval (.tmp 49)=p) (e50:a.eval (.tmp 50)=s) (e51:a.eval (.tmp 51)=z)
 (r1:Runs ws f1 pr m K u1 p s z) (r2:Runs ws f2 pr m K u2 p s z) (r3:Runs ws f3 pr m K u3 p s z):
 wpAnyC Tryz.prog .any ops Q c C 9 #[true,true,true,true,false,true,true,true,true,false,true,true,true,true,false,false,false,false,false,false,false] a w:=
 reg6 hC hr q4 q9 q14 q15 q16 q17 e38 e39 e40 e41 e43 e44 e45 e46 e48 e49 e50 e51 r1 r2 r3 rest 6 false false false 0 0 0 0 undef undef undef w rfl (by decide) ⟨H0,fun q=>absurd q (by decide),fun q=>absurd q (by decide),fun q=>absurd q (by decide)⟩
end
theorem runs_of{w0 ws:World}{f:Cf}{l t:Sv}{A:Option Addr}{n C:Nat}{pr:List U}{m:By}{k:Int}(hk:k≤2000)(hT:TabC w0)(hB:Below w0.heap.size w0 ws)(h1:CfIn ws f l t)(hP:Sl u32C 1 ws A n pr)(hW:Wf A n C):Runs ws f pr m (min k 2000).toNat (.agg (cfC f l t)) (.slice A n C) (.string (bs m)) (.int .i64 k):=fun L w H=>
 (run_m w0 w (Xl (fun _=>True) L) f l t A n C pr m k hk hT (hB.trans (H.bl.mono hB.size)) (H.nx hB.size (fun j q=>absurd trivial q)) (h1.below H.bl) (hP.below H.bl) hW).mono fun e w' ⟨c,s,he,hr,hc,hb⟩=>⟨_,he,⟨c,s,rfl,hc,hr⟩,hb⟩
def rg(regs:List U)(r:Int):U:=if r=0 then U.of 0 else regs.getD r.toNat (U.of 0)
def finE(e:En)(a b:U)(m:By):En:=
 if e.halt≠0 then e
 else if kd e.i.op=3 then(let x:=addrE e m.length a;if x.halt≠0 then x else takeE x (readM m x.addr (sz e.i.op)).1)
 else if kd e.i.op=4 then(let x:=addrE e m.length a;if x.halt≠0 then x else storeE x b)
 else startE e a b
def nw(prog:List U)(pc:U):En:=newE 0 ⟨pc,U.of 0⟩ prog
def seq1(prog:List U)(x:List U×By)(pc:U):St:=toldE (finE (nw prog pc) (rg x.1 (nw prog pc).i.r1) (rg x.1 (nw prog pc).i.r2) x.2)
def fwd(prog:List U)(x:List U×By)(pc:U):List U×By:=(applyR x.1 (seq1 prog x pc),overM x.2 (storedS (seq1 prog x pc)).toList)
def stP(prog:List U)(x:List U×By):List U→List U×By
 | []=>x
 | pc::l=>stP prog (fwd prog x pc) l
theorem stP_app(prog:List U):∀(a:List U) (x:List U×By) (b:List U),stP prog x (a++b)=stP prog (stP prog x a) b
 | [],x,b=>rfl
 | p::a,x,b=>stP_app prog a (fwd prog x p) b
theorem fwd_len(prog:List U)(x:List U×By)(pc:U):(fwd prog x pc).2.length=x.2.length:=ov_len _ _
theorem stP_len(prog:List U):∀(l:List U) (x:List U×By),(stP prog x l).2.length=x.2.length
 | [],x=>rfl
 | p::l,x=>(stP_len prog l _).trans (fwd_len prog x p)
theorem told_congr{e f:En}(h1:e.pc=f.pc)(h2:e.i=f.i)(h3:e.value=f.value)(h4:e.next=f.next)(h5:e.addr=f.addr)(h6:e.halt=f.halt)(h7:e.took=f.took):toldE e=toldE f:=by
 unfold toldE
 rw[h1,h2,h3,h4,h5,h6,h7]
theorem newE_pc(no:Int)(f:Fe)(prog:List U):(newE no f prog).pc=f.pc:=by
 unfold newE
 simp only
 split
 ·rfl
 ·split<;>rfl
theorem newE_guess(no:Int)(f:Fe)(prog:List U):(newE no f prog).guess=f.guess:=by
 unfold newE
 simp only
 split
 ·rfl
 ·split<;>rfl
theorem newE_eq(no:Int)(f:Fe)(prog:List U):newE no f prog={ nw prog f.pc with no:=no,guess:=f.guess }:=by
 unfold nw newE
 simp only
 split
 ·rfl
 ·split<;>rfl
theorem nw_pc(prog:List U)(pc:U):(nw prog pc).pc=pc:=newE_pc _ _ _
theorem nw_is(prog:List U)(pc:U):((nw prog pc).is=0∧(nw prog pc).halt=0∨(nw prog pc).is=3∧(nw prog pc).halt≠0)∧(nw prog pc).known=false∧(nw prog pc).filled=false:=by
 unfold nw newE
 simp only
 split
 ·exact⟨.inr ⟨rfl,by simp⟩,rfl,rfl⟩
 ·split
  ·exact⟨.inr ⟨rfl,by simp⟩,rfl,rfl⟩
  ·refine⟨?_,rfl,rfl⟩
   simp only
   by_cases h:(if(dec (fetchM prog pc).1).1.op=47 then(6:Int)else if(dec (fetchM prog pc).1).1.op=48 then 7 else 0)=0
   ·exact .inl ⟨by rw[h];rfl,h⟩
   ·exact .inr ⟨by rw[if_pos h],h⟩
theorem told_rd(e:En):(toldE e).rd=if e.halt≠0 then 0 else wr e.i.op e.i.rd:=by
 unfold toldE
 split
 ·rfl
 ·simp only
  repeat' split
  all_goals rfl
theorem told_halt(e:En):(toldE e).halt=e.halt:=by
 unfold toldE
 split
 ·rfl
 ·rename_i h
  simp only
  have:e.halt=0:=by omega
  rw[this]
  repeat' split
  all_goals rfl
theorem told_value{e:En}(h:e.halt=0)(hr:wr e.i.op e.i.rd≠0):(toldE e).value=e.value:=by
 unfold toldE
 rw[if_neg (by omega)]
 simp only[if_neg hr]
 repeat' split
 all_goals rfl
theorem told_next{e:En}(h:e.halt=0):(toldE e).next=if kd e.i.op=5 then e.next else addU e.pc 4:=by
 unfold toldE
 rw[if_neg (by omega)]
 simp only
 by_cases h4:kd e.i.op=4
 ·rw[if_pos h4,if_neg (show ¬ kd e.i.op=5 by omega)]
 ·rw[if_neg h4]
  by_cases h3:kd e.i.op=3
  ·rw[if_pos h3,if_neg (show ¬ kd e.i.op=5 by omega)]
  ·rw[if_neg h3]
   by_cases h2:kd e.i.op=2
   ·rw[if_pos h2,if_neg (show ¬ kd e.i.op=5 by omega)]
   ·rw[if_neg h2]
    by_cases h5:kd e.i.op=5
    ·rw[if_pos h5,if_pos h5]
    ·rw[if_neg h5,if_neg h5]
theorem told_store_eq{e:En}(h:e.halt=0)(h4:kd e.i.op=4):toldE e=⟨e.pc,addU e.pc 4,wr e.i.op e.i.rd,e.value,e.addr,sz e.i.op,true,0,0⟩:=by
 unfold toldE
 rw[if_neg (by omega)]
 simp only[if_pos h4]
theorem told_nostore{e:En}(h:e.halt≠0∨kd e.i.op≠4):storedS (toldE e)=none:=by
 have key:∀ s:St,s.store=false→storedS s=none:=fun s q=>by unfold storedS;rw[if_pos (.inl q)]
 apply key
 unfold toldE
 by_cases h0:e.halt≠0
 ·rw[if_pos h0]
 ·rw[if_neg h0]
  have h4:kd e.i.op≠4:=h.resolve_left h0
  simp only[if_neg h4]
  repeat' split
  all_goals rfl
theorem startE_i(e:En)(a b:U):(startE e a b).i=e.i∧(startE e a b).pc=e.pc∧(startE e a b).guess=e.guess:=by
 unfold startE
 split
 ·exact⟨rfl,rfl,rfl⟩
 ·simp only
  repeat' split
  all_goals exact⟨rfl,rfl,rfl⟩
theorem addrE_i(e:En)(n:Int)(a:U):(addrE e n a).i=e.i∧(addrE e n a).pc=e.pc∧(addrE e n a).guess=e.guess:=by
 unfold addrE
 split
 ·exact⟨rfl,rfl,rfl⟩
 ·split<;>exact⟨rfl,rfl,rfl⟩
theorem takeE_i(e:En)(b:By):(takeE e b).i=e.i∧(takeE e b).pc=e.pc∧(takeE e b).guess=e.guess:=by
 unfold takeE
 split<;>exact⟨rfl,rfl,rfl⟩
theorem storeE_i(e:En)(b:U):(storeE e b).i=e.i∧(storeE e b).pc=e.pc∧(storeE e b).guess=e.guess:=by
 unfold storeE
 split<;>exact⟨rfl,rfl,rfl⟩
theorem finE_i(e:En)(a b:U)(m:By):(finE e a b m).i=e.i∧(finE e a b m).pc=e.pc:=by
 have A:=addrE_i e m.length a
 unfold finE
 split
 ·exact⟨rfl,rfl⟩
 ·split
  ·simp only
   split
   ·exact⟨A.1,A.2.1⟩
   ·have T:=takeE_i (addrE e m.length a) (readM m (addrE e m.length a).addr (sz e.i.op)).1
    exact⟨T.1.trans A.1,T.2.1.trans A.2.1⟩
  ·split
   ·simp only
    split
    ·exact⟨A.1,A.2.1⟩
    ·have T:=storeE_i (addrE e m.length a) b
     exact⟨T.1.trans A.1,T.2.1.trans A.2.1⟩
   ·have T:=startE_i e a b
    exact⟨T.1,T.2.1⟩
theorem seq_rd(prog:List U)(x:List U×By)(pc:U):(seq1 prog x pc).rd=if(seq1 prog x pc).halt≠0 then 0 else wr (nw prog pc).i.op (nw prog pc).i.rd:=by
 unfold seq1
 rw[told_rd,told_halt,(finE_i _ _ _ _).1]
theorem bt_none:∀(l:List Pt) (x:Nat),(∀ p∈l,bt1 p x=none)→bt l x=none
 | [],x,h=>rfl
 | p::l,x,h=>by
  rw[bt,bt_none l x (fun q hq=>h q (List.mem_cons_of_mem _ hq)),h p mm0]
  rfl
theorem bt_one{b:UInt8}:∀(l:List Pt) (x:Nat),(∃ p∈l,bt1 p x=some b)→(∀ q∈l,bt1 q x=none∨bt1 q x=some b)→bt l x=some b
 | [],x,⟨p,hp,_⟩,_=>by cases hp
 | p::l,x,hex,hall=>by
  rw[bt]
  by_cases hl:∃ q∈l,bt1 q x=some b
  ·rw[bt_one l x hl (fun q hq=>hall q (List.mem_cons_of_mem _ hq))];rfl
  ·have hn:bt l x=none:=bt_none l x fun q hq=>by
    rcases hall q (List.mem_cons_of_mem _ hq)with e|e
    ·exact e
    ·exact absurd ⟨q,hq,e⟩ hl
   rw[hn]
   obtain⟨q,hq,e⟩:=hex
   rcases List.mem_cons.1 hq with h|h
   ·rw[← h,e];rfl
   ·exact absurd ⟨q,h,e⟩ hl
def Cov(y:Wy)(x:Nat):Prop:=y.line.v.toNat≤x∧x<y.line.v.toNat+16
theorem cov_line{y z:Wy}{x:Nat}(hy:y.line.v % 16=0)(hz:z.line.v % 16=0)(h1:Cov y x)(h2:Cov z x):y.line=z.line:=by
 have a:=y.line.lo
 have b:=z.line.lo
 obtain⟨p,q⟩:=h1
 obtain⟨r,s⟩:=h2
 exact U.eq_of (by omega)
theorem bt1_cov{y:Wy}{x:Nat}(hd:y.data.length=16):(Cov y x→bt1 ⟨y.line,y.data⟩ x=y.data[x-y.line.v.toNat]?∧∃ b,y.data[x-y.line.v.toNat]?=some b)∧(¬ Cov y x→bt1 ⟨y.line,y.data⟩ x=none):=by
 unfold Cov bt1
 simp only
 constructor
 ·rintro⟨p,q⟩
  exact⟨if_pos p,_,List.getElem?_eq_getElem (by omega)⟩
 ·intro h
  by_cases c:y.line.v.toNat≤x
  ·rw[if_pos c];exact List.getElem?_eq_none (by omega)
  ·rw[if_neg c]
section
variable {c:Ca}
theorem lines_no(hd:∀ y,Has c y→y.data.length=16){x:Nat}(h:∀ y,Has c y→¬ Cov y x):bt (linesC c) x=none:=by
 refine bt_none _ _ fun p hp=>?_
 unfold linesC at hp
 obtain⟨y,hy,rfl⟩:=List.mem_map.1 hp
 have hh:=has_iff.2 hy
 exact(bt1_cov (hd y hh)).2 (h y hh)
theorem lines_at(hr:RC c)(hd:∀ y,Has c y→y.data.length=16){x:Nat}{y:Wy}(hy:Has c y)(hc:Cov y x):bt (linesC c) x=y.data[x-y.line.v.toNat]?:=by
 obtain⟨e1,b,e2⟩:=(bt1_cov (hd y hy)).1 hc
 rw[e2]
 refine bt_one _ _ ⟨⟨y.line,y.data⟩,List.mem_map.2 ⟨y,has_iff.1 hy,rfl⟩,by rw[e1,e2]⟩ fun p hp=>?_
 unfold linesC at hp
 obtain⟨z,hz,rfl⟩:=List.mem_map.1 hp
 have hh:=has_iff.2 hz
 by_cases q:Cov z x
 ·right
  have:z=y:=hr.uniq hh hy (cov_line (hr.al hh) (hr.al hy) q hc)
  rw[this,e1,e2]
 ·exact .inl ((bt1_cov (hd z hh)).2 q)
end
theorem under_same{c c':Ca}(hr:RC c)(hr':RC c')(hd:∀ y,Has c y→y.data.length=16)(hs:∀ y,Has c' y↔Has c y)(B:By):overM B (linesC c')=overM B (linesC c):=by
 have hd':∀ y,Has c' y→y.data.length=16:=fun y hy=>hd y ((hs y).1 hy)
 refine ov_ext rfl fun x hx=>?_
 by_cases q:∃ y,Has c y∧Cov y x
 ·obtain⟨y,hy,hc⟩:=q
  rw[lines_at hr hd hy hc,lines_at hr' hd' ((hs y).2 hy) hc]
 ·rw[lines_no hd (fun y hy hc=>q ⟨y,hy,hc⟩),lines_no hd' (fun y hy hc=>q ⟨y,(hs y).1 hy,hc⟩)]
theorem cov_at{m:By}{u:U}{x:Nat}(h:Ln m.length u)(h1:u.v.toNat≤x)(h2:x<u.v.toNat+16):(cutM m u)[x-u.v.toNat]?=m[x]?:=by
 rw[cut_at h (by omega),show u.v.toNat+(x-u.v.toNat)=x by omega]
theorem under_put{c c':Ca}{B B':By}{n e:Wy}{ev:Bool}(hr:RC c)(hr':RC c')(hd:∀ y,Has c y→y.data.length=16)(hn:Ln B.length n.line)(hnd:n.data=cutM B n.line)
 (hs:∀ y,Has c' y↔y=n∨(Has c y∧(ev=true→y.line≠e.line))) (hne:∀ y,Has c y→y.line≠n.line) (hev:ev=true→Has c e) (hB:B'.length=B.length)
 (hcase:(ev=true∧Ln B.length e.line∧B'=overM B [⟨e.line,e.data⟩])∨(B'=B∧(ev=true→Ln B.length e.line∧e.data=cutM B e.line))):overM B' (linesC c')=overM B (linesC c):=by
 have hn16:n.data.length=16:=by rw[hnd];exact cut_len hn
 have hd':∀ y,Has c' y→y.data.length=16:=fun y hy=>by
  rcases(hs y).1 hy with q|⟨q,_⟩
  ·rw[q];exact hn16
  ·exact hd y q
 have hnh:Has c' n:=(hs n).2 (.inl rfl)
 refine ov_ext hB fun x hx=>?_
 rw[hB]at hx
 by_cases q:Cov n x
 ·rw[lines_at hr' hd' hnh q,lines_no hd (fun y hy hc=>hne y hy (cov_line (hr.al hy) hn.1 hc q)),hnd,cov_at hn q.1 q.2,List.getElem?_eq_getElem hx]
  rfl
 ·by_cases q2:∃ y,Has c y∧Cov y x
  ·obtain⟨y,hy,hc⟩:=q2
   by_cases q3:ev=true∧y.line=e.line
   ·obtain⟨he,hl⟩:=q3
    have hye:y=e:=hr.uniq hy (hev he) hl
    subst hye
    have hno:∀ z,Has c' z→¬ Cov z x:=fun z hz hcz=>by
     rcases(hs z).1 hz with r|⟨r1,r2⟩
     ·rw[r]at hcz;exact q hcz
     ·exact r2 he (cov_line (hr.al r1) (hr.al hy) hcz hc)
    rw[lines_no hd' hno,lines_at hr hd hy hc]
    obtain⟨b1,b,b2⟩:=(bt1_cov (hd y hy)).1 hc
    rcases hcase with⟨_,_,hb⟩|⟨hb,hcl⟩
    ·rw[hb,ov_at _ _ _ hx]
     show((none:Option UInt8)).or (((none:Option UInt8).or (bt1 ⟨y.line,y.data⟩ x)).or _)=_
     rw[b1,b2]
     rfl
    ·obtain⟨g1,g2⟩:=hcl he
     rw[hb,g2,cov_at g1 hc.1 hc.2,List.getElem?_eq_getElem hx]
     rfl
   ·have hy':Has c' y:=(hs y).2 (.inr ⟨hy,fun he hl=>q3 ⟨he,hl⟩⟩)
    rw[lines_at hr' hd' hy' hc,lines_at hr hd hy hc]
    obtain⟨b1,b,b2⟩:=(bt1_cov (hd y hy)).1 hc
    rw[b2]
    rfl
  ·have hno:∀ z,Has c' z→¬ Cov z x:=fun z hz hcz=>by
    rcases(hs z).1 hz with r|⟨r1,r2⟩
    ·rw[r]at hcz;exact q hcz
    ·exact q2 ⟨z,r1,hcz⟩
   rw[lines_no hd' hno,lines_no hd (fun y hy hc=>q2 ⟨y,hy,hc⟩)]
   rcases hcase with⟨he,_,hb⟩|⟨hb,_⟩
   ·rw[hb,ov_at _ _ _ hx]
    show _=_
    have:bt [⟨e.line,e.data⟩] x=none:=by
     show((none:Option UInt8).or (bt1 ⟨e.line,e.data⟩ x))=none
     rw[(bt1_cov (hd e (hev he))).2 (fun hc=>q2 ⟨e,hev he,hc⟩)]
     rfl
    rw[this]
    rfl
   ·rw[hb]
theorem RC.writeX{c:Ca}(h:RC c){a:U}{b:By}(hw:(writeC c a b).2=true):∃ z:Wy,Has c z∧z.line=lineU a∧z.data.length=16∧(a.v-(lineU a).v).toNat+b.length≤16∧RC (writeC c a b).1∧
 ∀ y,Has (writeC c a b).1 y↔y={ z with data:=z.data.take (a.v-(lineU a).v).toNat++b++z.data.drop ((a.v-(lineU a).v).toNat+b.length),dirty:=true }∨(Has c y∧y.line≠lineU a):=by
 cases hf:(findC c a).2.2 with
 | false=>
  unfold writeC at hw
  simp only[hf,Bool.false_eq_true,if_false]at hw
 | true=>
  obtain⟨s,y0,h1,h2,h3,h4,h5,h6,h7⟩:=h.found hf
  have hg:s.getD (findC c a).2.1 wyZ'=y0:=by rw[List.getD_eq_getElem?_getD,h5];rfl
  have hy0:Has c y0:=⟨_,s,h1,List.mem_of_getElem? h5⟩
  have e:writeC c a b=if y0.data=[]∨16-(((a.v-(lineU a).v).toNat:Nat):Int)<b.length then(c,false)else(withC c (findC c a).1 (setHead (frontW s (findC c a).2.1) fun y=>{ y with data:=y0.data.take (a.v-(lineU a).v).toNat++b++y0.data.drop ((a.v-(lineU a).v).toNat+b.length),dirty:=true }),true):=by
   unfold writeC
   simp only[hf,if_true,h2,hg]
  rw[e]at hw ⊢
  by_cases hn:y0.data=[]∨16-(((a.v-(lineU a).v).toNat:Nat):Int)<b.length
  ·rw[if_pos hn]at hw;cases hw
  ·rw[if_neg hn]
   have hl0:y0.data.length=16:=by
    rcases h.dat hy0 with q|q
    ·exact absurd (.inl (List.eq_nil_of_length_eq_zero q)) hn
    ·exact q
   have hfit:(a.v-(lineU a).v).toNat+b.length≤16:=by
    have:¬ 16-(((a.v-(lineU a).v).toNat:Nat):Int)<b.length:=fun q=>hn (.inr q)
    omega
   have hlen:(y0.data.take (a.v-(lineU a).v).toNat++b++y0.data.drop ((a.v-(lineU a).v).toNat+b.length)).length=16:=by
    simp only[List.length_append,List.length_take,List.length_drop]
    omega
   generalize hnd:y0.data.take (a.v-(lineU a).v).toNat++b++y0.data.drop ((a.v-(lineU a).v).toNat+b.length)=nd at hlen
   obtain⟨q1,q2⟩:=h.turn hf (fun y=>{ y with data:=nd,dirty:=true }) (fun _=>rfl) (fun y _=>.inr hlen)
   rw[h2]at q1 q2
   refine⟨y0,hy0,h6,hl0,hfit,q1,fun y=>?_⟩
   rw[q2,hnd]
   constructor
   ·rintro(⟨z,hz,hl,rfl⟩|hz)
    ·have:z=y0:=h.uniq hz hy0 (by rw[hl,h6])
     subst this
     exact .inl rfl
    ·exact .inr hz
   ·rintro(rfl|hz)
    ·exact .inl ⟨y0,hy0,h6,rfl⟩
    ·exact .inr hz
theorem under_write{c c':Ca}{B:By}{a:U}{b:By}{z:Wy}(hr:RC c)(hr':RC c')(hd:∀ y,Has c y→y.data.length=16)(hz:Has c z)(hl:z.line=lineU a)(hfit:(a.v-(lineU a).v).toNat+b.length≤16)
 (hs:∀ y,Has c' y↔y={ z with data:=z.data.take (a.v-(lineU a).v).toNat++b++z.data.drop ((a.v-(lineU a).v).toNat+b.length),dirty:=true }∨(Has c y∧y.line≠lineU a)):overM B (linesC c')=overM (overM B (linesC c)) [⟨a,b⟩]:=by
 have hz16:=hd z hz
 have hlen:(z.data.take (a.v-(lineU a).v).toNat++b++z.data.drop ((a.v-(lineU a).v).toNat+b.length)).length=16:=by
  simp only[List.length_append,List.length_take,List.length_drop]
  omega
 have hlv:=lineU_v a
 have ha0:=a.lo
 have hl0:=(lineU a).lo
 have hla:(lineU a).v≤a.v:=by rw[hlv];have:=Int.emod_nonneg a.v (show(16:Int)≠0 by decide);omega
 obtain⟨nd,hnd⟩:∃ nd,z.data.take (a.v-(lineU a).v).toNat++b++z.data.drop ((a.v-(lineU a).v).toNat+b.length)=nd:=⟨_,rfl⟩
 rw[hnd]at hs hlen
 have hd':∀ y,Has c' y→y.data.length=16:=fun y hy=>by
  rcases(hs y).1 hy with q|⟨q,_⟩
  ·rw[q];exact hlen
  ·exact hd y q
 have hnh:Has c' { z with data:=nd,dirty:=true }:=(hs _).2 (.inl rfl)
 refine by_ext (by rw[ov_len,ov_len,ov_len]) fun x hx=>?_
 rw[ov_len]at hx
 rw[ov_at _ _ _ hx,ov_at _ _ _ (by rw[ov_len];exact hx),ov_at _ _ _ hx]
 show _=((none:Option UInt8).or (bt1 ⟨a,b⟩ x)).or _
 rw[Option.none_or]
 by_cases q:Cov z x
 ·have hc':Cov { z with data:=nd,dirty:=true } x:=q
  rw[lines_at hr' hd' hnh hc',lines_at hr hd hz q]
  show(nd[x-z.line.v.toNat]?).or _=_
  obtain⟨q1,q2⟩:=q
  rw[hl]at q1 q2 ⊢
  have hj:x-(lineU a).v.toNat<16:=by omega
  have hsome:nd[x-(lineU a).v.toNat]?=some nd[x-(lineU a).v.toNat]:=List.getElem?_eq_getElem (by omega)
  have key:nd[x-(lineU a).v.toNat]?=(bt1 ⟨a,b⟩ x).or (z.data[x-(lineU a).v.toNat]?):=by
   unfold bt1
   simp only
   rw[← hnd,List.append_assoc]
   have e1:(z.data.take (a.v-(lineU a).v).toNat).length=(a.v-(lineU a).v).toNat:=by rw[List.length_take];omega
   by_cases c1:x-(lineU a).v.toNat<(a.v-(lineU a).v).toNat
   ·rw[List.getElem?_append_left (by omega),List.getElem?_take_of_lt c1,if_neg (by omega)];rfl
   ·rw[List.getElem?_append_right (by omega),e1,if_pos (by omega)]
    have e2:x-(lineU a).v.toNat-(a.v-(lineU a).v).toNat=x-a.v.toNat:=by omega
    rw[e2]
    by_cases c2:x-a.v.toNat<b.length
    ·rw[List.getElem?_append_left c2,List.getElem?_eq_getElem c2];rfl
    ·rw[List.getElem?_append_right (by omega),List.getElem?_drop,List.getElem?_eq_none (l:=b) (by omega),Option.none_or]
     congr 1
     omega
  rw[hsome,Option.some_or]
  rw[hsome]at key
  have h2:z.data[x-(lineU a).v.toNat]?=some z.data[x-(lineU a).v.toNat]:=List.getElem?_eq_getElem (by omega)
  rw[h2]at key ⊢
  rw[Option.some_or]
  exact key
 ·have hno:bt1 ⟨a,b⟩ x=none:=by
   unfold bt1
   simp only
   split
   ·apply List.getElem?_eq_none
    unfold Cov at q
    rw[hl]at q
    omega
   ·rfl
  rw[hno,Option.none_or]
  by_cases q2:∃ y,Has c y∧Cov y x
  ·obtain⟨y,hy,hc⟩:=q2
   have hyl:y.line≠lineU a:=fun e=>q (by
    have:y=z:=hr.uniq hy hz (by rw[e,hl])
    rw[← this];exact hc)
   rw[lines_at hr' hd' ((hs y).2 (.inr ⟨hy,hyl⟩)) hc,lines_at hr hd hy hc]
  ·rw[lines_no hd (fun y hy hc=>q2 ⟨y,hy,hc⟩),lines_no hd' (fun y hy hc=>?_)]
   rcases(hs y).1 hy with r|⟨r,_⟩
   ·rw[r]at hc;exact q hc
   ·exact q2 ⟨y,r,hc⟩
def memV(c:Co):By:=allM c.stores c.data c.bus c.mem
theorem memV_eq{c x:Co}(h1:x.stores=c.stores)(h2:overM (belowM x.bus x.mem) (linesC x.data)=overM (belowM c.bus c.mem) (linesC c.data)):memV x=memV c:=by
 unfold memV allM underM
 rw[h1,h2]
theorem memV_len(c:Co):(memV c).length=c.mem.length:=by
 unfold memV allM underM
 rw[ov_len,ov_len,below_len]
theorem Inv.d16{c:Co}(h:Inv c):∀ y,Has c.data y→y.data.length=16:=fun y hy=>(h.ln y hy).2.1
theorem memV_ask{c:Co}(kind:Int)(line:U)(d:By)(h:kind≠4):memV (askC c kind line d)=memV c:=
 memV_eq rfl (by show overM (belowM (pushQ c.bus kind line (latF c.conf c.asked) d) c.mem) _=_;rw[below_push,if_neg h];rfl)
theorem memV_bring{c:Co}(h:Inv c){line:U}(hl:Ln c.mem.length (lineU line)):memV (bringC c line)=memV c:=by
 have hr:rightC c.data=true:=rightC_iff.2 h.rc
 have hid:lineU (lineU line)=lineU line:=lineU_idem line
 cases hf:(findC c.data (lineU line)).2.2 with
 | true=>
  have e:bringC c line={ c with data:=touchC c.data (lineU line) }:=by
   unfold bringC bringQ
   rw[if_pos hr,if_pos hf]
   rfl
  obtain⟨q1,q2⟩:=h.rc.touch (lineU line)
  rw[e]
  exact memV_eq rfl (under_same h.rc q1 h.d16 q2 _)
 | false=>
  have hbl:Ln (belowM c.bus c.mem).length (lineU line):=by rw[below_len];exact hl
  obtain⟨q1,q2,q3,q4⟩:=h.rc.put_new hf (cutM (belowM c.bus c.mem) (lineU line)) false (.inr (cut_len hbl))
  rw[hid]at q2 q4
  obtain⟨pc,pw,pb,hp⟩:∃ pc pw pb,putC c.data (lineU line) (cutM (belowM c.bus c.mem) (lineU line)) false=(pc,pw,pb):=⟨_,_,_,rfl⟩
  rw[hp]at q1 q2 q3
  simp only at q1 q2 q3
  by_cases hcase:(pb&&pw.dirty&&!decide (pw.data=[]))=true
  ·have e:bringC c line={ c with data:=pc,bus:=pushQ c.bus 4 pw.line (latF c.conf c.asked) pw.data,asked:=wrap64 (c.asked+1) }:=by
    unfold bringC bringQ
    rw[if_pos hr,if_neg (by rw[hf];simp)]
    simp only[hp,hcase,if_true]
   simp only[Bool.and_eq_true]at hcase
   obtain⟨⟨c1,c2⟩,c3⟩:=hcase
   obtain⟨g1,g2,g3⟩:=h.ln pw (q3 c1)
   have hb:belowM (pushQ c.bus 4 pw.line (latF c.conf c.asked) pw.data) c.mem=overM (belowM c.bus c.mem) [⟨pw.line,pw.data⟩]:=by rw[below_push,if_pos rfl]
   rw[e]
   refine memV_eq rfl ?_
   refine under_put (n:=⟨lineU line,false,cutM (belowM c.bus c.mem) (lineU line)⟩) (e:=pw) (ev:=pb) h.rc q1 h.d16 hbl rfl q2 q4 q3 ?_ (.inl ⟨c1,by rw[below_len];exact g1,hb⟩)
   show(belowM (pushQ c.bus 4 pw.line (latF c.conf c.asked) pw.data) c.mem).length=_
   rw[below_len,below_len]
  ·have e:bringC c line={ c with data:=pc }:=by
    unfold bringC bringQ
    rw[if_pos hr,if_neg (by rw[hf];simp)]
    simp only[hp,if_neg hcase]
    rfl
   rw[e]
   refine memV_eq rfl ?_
   refine under_put (n:=⟨lineU line,false,cutM (belowM c.bus c.mem) (lineU line)⟩) (e:=pw) (ev:=pb) h.rc q1 h.d16 hbl rfl q2 q4 q3 rfl (.inr ⟨rfl,fun c1=>?_⟩)
   obtain⟨g1,g2,g3⟩:=h.ln pw (q3 c1)
   refine⟨by rw[below_len];exact g1,g3 ?_⟩
   cases hd:pw.dirty with
   | false=>rfl
   | true=>
    exfalso
    apply hcase
    rw[c1,hd]
    simp only[Bool.and_true,Bool.true_and,Bool.not_eq_true',decide_eq_false_iff_not]
    intro h0
    rw[h0]at g2
    cases g2
theorem tick_cases(c:Co):(∃ q d ok,tickQ c.bus=(q,d,ok)∧(ok=false→writesQ q=writesQ c.bus)∧(ok=true→∃ r,c.bus=r::q∧d={ r with left:=wrap64 (r.left-1) })∧
 ticksC c=if ok=false then { c with bus:=q } else if d.kind=1 then { c with bus:=q,rob:=c.rob.map (fillE { c with bus:=q } d.line) } else if d.kind=2 then { c with bus:=q,words:=(putC c.words d.line [] false).1 } else if d.kind=3 then bringC { c with bus:=q } d.line else if d.kind=4 then { c with bus:=q,mem:=overM c.mem [⟨d.line,d.data⟩] } else { c with bus:=q }):=by
 obtain⟨q,d,ok,ht⟩:∃ q d ok,tickQ c.bus=(q,d,ok):=⟨_,_,_,rfl⟩
 refine⟨q,d,ok,ht,?_,?_,?_⟩
 ·intro e
  subst e
  cases hb:c.bus with
  | nil=>rw[hb]at ht;unfold tickQ at ht;cases ht;rfl
  | cons r l=>
   rw[hb]at ht
   unfold tickQ at ht
   simp only at ht
   split at ht
   ·cases ht
    unfold writesQ
    by_cases hk:r.kind=4<;>simp[hk]
   ·cases ht
 ·intro e
  subst e
  cases hb:c.bus with
  | nil=>rw[hb]at ht;unfold tickQ at ht;cases ht
  | cons r l=>
   rw[hb]at ht
   unfold tickQ at ht
   simp only at ht
   split at ht
   ·cases ht
   ·cases ht;exact⟨r,rfl,rfl⟩
 ·unfold ticksC
  simp only[ht]
theorem below_pop{r:Rq}{q:List Rq}{m:By}:belowM (r::q) m=if r.kind=4 then belowM q (overM m [⟨r.line,r.data⟩])else belowM q m:=by
 unfold belowM writesQ
 by_cases h:r.kind=4
 ·rw[if_pos h];simp[h,ov_cons,overM];rfl
 ·rw[if_neg h];simp[h]
theorem memV_ticks{c:Co}(h:Inv c):memV (ticksC c)=memV c:=by
 obtain⟨q,d,ok,ht,h1,h2,h3⟩:=tick_cases c
 rw[h3]
 cases ok with
 | false=>
  rw[if_pos rfl]
  refine memV_eq rfl ?_
  show overM (belowM q c.mem) _=_
  unfold belowM
  rw[h1 rfl]
 | true=>
  rw[if_neg (by simp)]
  obtain⟨r,e1,e2⟩:=h2 rfl
  have hb:=h.bus r (by rw[e1];exact List.mem_cons_self ..)
  have hno:d.kind≠4→belowM q c.mem=belowM c.bus c.mem:=fun hk=>by
   have hk':r.kind≠4:=by rw[e2]at hk;exact hk
   rw[e1,below_pop,if_neg hk']
  split
  ·rename_i hk
   refine memV_eq rfl ?_
   show overM (belowM q c.mem) _=_
   rw[hno (by omega)]
  ·split
   ·rename_i hk
    refine memV_eq rfl ?_
    show overM (belowM q c.mem) _=_
    rw[hno (by omega)]
   ·split
    ·rename_i hk
     have hi:Inv { c with bus:=q }:=⟨h.m16,h.rc,fun y hy=>by
      show _∧_∧(_→_=cutM (belowM q c.mem) y.line)
      rw[hno (by omega)];exact h.ln y hy,h.wr,h.wd,fun x hx=>h.bus x (by rw[e1];exact List.mem_cons_of_mem _ hx),h.rob,h.sto⟩
     have hl:Ln c.mem.length d.line:=by rw[e2];exact hb.1 (by rw[e2]at hk;exact hk)
     rw[memV_bring (c:={ c with bus:=q }) hi (line:=d.line) (by rw[ln_id hl];exact hl)]
     refine memV_eq rfl ?_
     show overM (belowM q c.mem) _=_
     rw[hno (by omega)]
    ·split
     ·rename_i hk
      refine memV_eq rfl ?_
      show overM (belowM q (overM c.mem [⟨d.line,d.data⟩])) _=_
      have hk':r.kind=4:=by rw[e2]at hk;exact hk
      rw[e1,below_pop,if_pos hk',e2]
     ·rename_i hk
      refine memV_eq rfl ?_
      show overM (belowM q c.mem) _=_
      rw[hno hk]
theorem memV_drains{c:Co}(h:Inv c)(h0:c.halt=0):memV (drainsC c)=memV c:=by
 rw[dr_eq]
 have h1:memV (dr1 c)=memV c:=by
  unfold dr1
  cases hs:c.stores with
  | nil=>refine memV_eq ?_ rfl;rw[hs];rfl
  | cons p T=>
   cases hw:(writeC c.data p.addr p.data).2 with
   | false=>
    have e:drainS (p::T) c.data=(p::T,c.data,false):=by unfold drainS;simp only;rw[if_neg (by rw[hw];simp)]
    rw[e]
    exact memV_eq hs.symm rfl
   | true=>
    have e:drainS (p::T) c.data=(T,(writeC c.data p.addr p.data).1,true):=by unfold drainS;simp only;rw[if_pos hw]
    rw[e]
    obtain⟨z,g1,g2,g3,g4,g5,g6⟩:=h.rc.writeX hw
    have hu:=under_write (B:=belowM c.bus c.mem) h.rc g5 h.d16 g1 g2 g4 g6
    unfold memV allM underM
    rw[hs]
    show overM (overM (belowM c.bus c.mem) (linesC (writeC c.data p.addr p.data).1)) T=_
    rw[hu]
    rfl
 have h2:memV (dr2 (dr1 c) (drainS c.stores c.data).2.2)=memV (dr1 c):=by
  unfold dr2
  split
  ·rfl
  ·split
   ·exact memV_ask _ _ _ (by decide)
   ·rfl
 have e2:(dr2 (dr1 c) (drainS c.stores c.data).2.2).halt=c.halt:=by
  unfold dr2
  split
  ·rfl
  ·split<;>rfl
 have h3:dr3 (dr2 (dr1 c) (drainS c.stores c.data).2.2)=dr2 (dr1 c) (drainS c.stores c.data).2.2:=by
  unfold dr3
  rw[if_pos (.inr (by rw[e2];exact h0))]
 rw[h3,h2,h1]
end Go.Proofs.YtdmhfogegfmnfaaGreatDoor
