/- Contracts: whether an entry can start. Conditions: the machine is one. Contracts: what is picked. Conditions: its slices read as lists. Contracts: entries that can start are picked, and start. Conditions: the machine is one, its shape and its cache of data right, memory and bus not long. Contracts: entries that can start are picked, and start: the walk. Conditions: the .. -/
import Derived.Test.YtdmhfogegfmnfaaGreatDoorB01
import Derived.Test.YtdmhfogegfmnfaaGreatDoorB04
import Derived.Test.YtdmhfogegfmnfaaGreatDoorB06
import Derived.Test.YtdmhfogegfmnfaaGreatDoorB10
import Derived.Test.YtdmhfogegfmnfaaGreatDoorB17
import Derived.Test.YtdmhfogegfmnfaaGreatDoorB18
import Derived.Test.YtdmhfogegfmnfaaGreatDoorB19
import Derived.Test.YtdmhfogegfmnfaaGreatDoorB20
import Derived.Test.YtdmhfogegfmnfaaGreatDoorB21
import Derived.Test.YtdmhfogegfmnfaaGreatDoorB22
import Derived.Test.YtdmhfogegfmnfaaGreatDoorB23
import Derived.Test.YtdmhfogegfmnfaaGreatDoorB27
import Derived.Maps.Own
import Derived.Maps.OwnOps
import Derived.WalkMore
import Derived.Maps.Keyed
import Derived.Laws.Tables
set_option maxRecDepth 100000
set_option maxHeartbeats 8000000
set_option linter.unusedVariables false
set_option linter.unusedSimpArgs false
namespace Go.Proofs.YtdmhfogegfmnfaaGreatDoor
open Go.RowKit
theorem can_wait{c:Co}{i:Nat}{y:En}(h:c.rob[i]?=some y):canB c i=(decide (y.is=0)&&(if kd y.i.op=3 then y.known||(readE c.rob c.regs i y.i.r1).2 else if kd y.i.op=4 then !y.known&&(readE c.rob c.regs i y.i.r1).2 else(bothE c.rob c.regs i).2.2)):=by
 unfold canB
 simp only[List.getD_eq_getElem?_getD,h,Option.getD_some]
def CanP(w0 w:World)(g:Nat)(κ:Nat→Nat)(c:Co)(s:Ss)(i:Nat)(e:Ending)(w':World):Prop:=∃ b:Bool,e= .returned (.bool b)∧(b=true→canB c i=true)∧MQ w0 w g κ c s w'
theorem can_m(w0 w:World)(g:Nat)(κ:Nat→Nat)(c:Co)(s:Ss)(i:Nat)(M:MS w0 w g κ c s)(hi:i<c.rob.length):Calls Tryz.prog 62 #[.pointer (some ⟨g,0,none⟩),.int .i64 (i:Int)] w (CanP w0 w g κ c s i):=by
 have H:=St'.start M
 have lr:=M.r.rob.sl.len
 clear M
 obtain⟨r,off,e0⟩:=H.robat (by omega)
 have hi2:i<s.rob.n:=by omega
 suffices q:∀ n C,s={ s with rob:=⟨some ⟨r,off,none⟩,n,C⟩ }→n=s.rob.n→Calls Tryz.prog 62 #[.pointer (some ⟨g,0,none⟩),.int .i64 (i:Int)] w (CanP w0 w g κ c { s with rob:=⟨some ⟨r,off,none⟩,n,C⟩ } i) by
  have:=q _ _ e0 rfl
  rwa [← e0]at this
 intro n C e1 en
 rw[e1]at H
 have hi3:i<n:=by omega
 clear e0 e1 en hi2 lr
 obtain⟨r',off',cur,y,eA,_,_,_,hy,hcl⟩:=H.m.entry (i:=i) hi
 cases eA
 have HC:=Lib.hid hcl
 have HY:=Lib.hid hy
 have HI:=Lib.hid hi
 have E:=Lib.hid (can_wait hy)
 have hi:=hi3
 have b3':(0:Int)≤(i:Int):=by omega
 have b4':(i:Int)<(n:Int):=by omega
 clear hy hcl hi3
 cases e0:(y.is != 0)with
 | true=>
  go_enter Tryz.func62,Tryz.ntmps62
  go_wp2_with (first|((with_reducible refine gL 85 20 ?_);refine st_lrow rfl row85 _ rfl r (off+i*17) rfl (enC y) rfl HC.out ?_;try simp only[Act.put,xA,xB,xC,fR])|((with_reducible refine gL 31 17 ?_);refine st_ld1 rfl one31 H _ rfl 48 rfl _ (coC_48 _ _) ?_;go_frame)|((with_reducible refine gAl 85 ?_);refine st_al rfl (enC enZ) zero85 H rfl ?_;clear H;intro w1 b5 κ1 H;go_frame)|((with_reducible refine gS 85 5 ?_);refine st_slw rfl cel85 _ _ _ H _ _ rfl rfl _ rfl rfl rfl rfl ?_;clear H;intro w1 ho1 H;go_frame)|((with_reducible refine gL 3 22 ?_);refine st_ll1 rfl one3 H _ rfl _ 8 rfl _ 85 mm0 _ (enC_8 _) ?_;go_frame))
  go_ret
  exact⟨false,rfl,(fun h=>by cases h),H.mq⟩
 | false=>
  have hz:y.is=0:=by simpa using e0
  have E0:=Lib.hid (show canB c i=(if kd y.i.op=3 then y.known||(readE c.rob c.regs i y.i.r1).2 else if kd y.i.op=4 then !y.known&&(readE c.rob c.regs i y.i.r1).2 else(bothE c.rob c.regs i).2.2) by rw[E.out,hz];rfl)
  clear hz E
  obtain⟨rv,rb,hrd⟩:∃ rv rb,readE c.rob c.regs i y.i.r1=(rv,rb):=⟨_,_,rfl⟩
  have HR:=Lib.hid hrd
  rw[hrd]at E0
  obtain⟨ba,bb,bi,hbo⟩:∃ ba bb bi,bothE c.rob c.regs i=(ba,bb,bi):=⟨_,_,_,rfl⟩
  have HB:=Lib.hid hbo
  rw[hbo]at E0
  clear hrd hbo
  go_enter Tryz.func62,Tryz.ntmps62
  go_wp2_with (first|((with_reducible refine gL 85 20 ?_);refine st_lrow rfl row85 _ rfl r (off+i*17) rfl (enC y) rfl HC.out ?_;try simp only[Act.put,xA,xB,xC,fR])|((with_reducible refine gL 31 17 ?_);refine st_ld1 rfl one31 H _ rfl 48 rfl _ (coC_48 _ _) ?_;go_frame)|((with_reducible refine gAl 85 ?_);refine st_al rfl (enC enZ) zero85 H rfl ?_;clear H;intro w1 b5 κ1 H;go_frame)|((with_reducible refine gS 85 5 ?_);refine st_slw rfl cel85 _ _ _ H _ _ rfl rfl _ rfl rfl rfl rfl ?_;clear H;intro w1 ho1 H;go_frame)|((with_reducible refine gL 3 22 ?_);refine st_ll1 rfl one3 H _ rfl _ 8 rfl _ 85 mm0 _ (enC_8 _) ?_;go_frame))
  go_wp2_with fail
  refine beginS 12 (l0:=zz14) H (by kernel_rfl) ?_ (by kernel_rfl);clear H;intro H
  iterate 5 refine rP H ?_;go_frame
  refine tC 5 30 rfl (by kernel_rfl) iQ (by(exact yields_one one3 rfl _ rfl _ rfl _ (fun w h=>(h.cell 0).trans (coC_0 _ _)))) H ?_;go_frame
  iterate 4 refine rP H ?_;go_frame
  refine tC 10 35 rfl (by kernel_rfl) iQ (by(exact yields_one one31 rfl _ rfl _ rfl _ (fun w h=>(h.cell 48).trans (coC_48 _ _)))) H ?_;go_frame
  refine tP 11 36 H ?_;go_frame
  refine o1C 12 37 (fun K hK=>?_)
  refine step_fn rfl _ _ _ (may_any c.conf.mode (some ⟨r,off,none⟩) n C c.rob i _ H.m.r.rob.sl hi) (by go_simp<;>rfl) ?_;rintro r1 w1 ⟨⟨mb,rfl⟩,hb⟩;refine⟨_,rfl,?_⟩;replace H:=H.below hb
  refine hK.out _ _ (aB rfl) ?_;clear hK K;go_frame
  refine tQ 13 6 rfl ?_;go_frame
  refine dnC ?_ _
  go_wp2_with (first|((with_reducible refine gL 83 39 ?_);refine st_llr rfl row83 H _ rfl _ 2 rfl _ 85 mm0 (inC _) rfl (sub_inst _) ?_;go_frame)|(go_at_call 53;refine(reads_any y.i.op y.i.rd y.i.r1 y.i.r2 y.i.imm.v _).mono ?_;rintro r w1 ⟨rfl,hb⟩;replace H:=H.below hb))
  go_wp2_with fail
  refine beginS 12 (l0:=zz18) H (by kernel_rfl) ?_ (by kernel_rfl);clear H;intro H
  iterate 4 refine rP H ?_;go_frame
  refine tC 4 49 rfl (by kernel_rfl) iQ (by(exact yields_one one31 rfl _ rfl _ rfl _ (fun w h=>(h.cell 48).trans (coC_48 _ _)))) H ?_;go_frame
  iterate 4 refine rP H ?_;go_frame
  refine tC 9 54 rfl (by kernel_rfl) iQ (by(exact yields_row row29 rfl _ rfl _ _ rfl _ rfl (fun w h j v hj=>(h.cell _).trans (sub_regs _ _ j v hj)))) H ?_;go_frame
  iterate 2 refine rP H ?_;go_frame
  refine o1C 12 57 (fun K hK=>?_)
  refine step_fn rfl _ _ _ (sread_any (some ⟨r,off,none⟩) n C c.rob c.regs i y.i.r1 _ H.m.r.rob.sl (Nat.le_of_lt hi)) (by go_simp<;>rfl) ?_;unfold RdeP;rw[HR.out];rintro r1 w1 ⟨rfl,hb⟩;refine⟨_,rfl,?_⟩;replace H:=H.below hb
  refine hK.out _ _ (aB rfl) ?_;clear hK K;go_frame
  iterate 5 refine rQ rfl ?_;go_frame
  refine dnC ?_ _
  cases e3:(kd y.i.op== 3)with
  | true=>
   have E1:=Lib.hid (E0.out.trans (if_pos (by simpa using e3)))
   clear E0
   cases hk:y.known with
   | true=>
    have G1:=Lib.hid hk
    go_wp2_with (first|((with_reducible refine gL 83 60 ?_);refine st_llr rfl row83 H _ rfl _ 2 rfl _ 85 mm0 (inC _) rfl (sub_inst _) ?_;go_frame)|((with_reducible refine gL 4 65 ?_);refine st_ll1 rfl one4 H _ rfl _ 15 rfl _ 85 mm0 _ (enC_15 _) ?_;go_frame)|(go_at_call 52;refine(kind_any y.i.op y.i.rd y.i.r1 y.i.r2 y.i.imm.v _).mono ?_;rintro r w1 ⟨rfl,hb⟩;replace H:=H.below hb))
    go_ret
    exact⟨_,rfl,(fun _=>by rw[E1.out,G1.out];rfl),H.mq⟩
   | false=>
    have G1:=Lib.hid hk
    cases rb<;>cases mb
    all_goals
     go_wp2_with (first|((with_reducible refine gL 83 60 ?_);refine st_llr rfl row83 H _ rfl _ 2 rfl _ 85 mm0 (inC _) rfl (sub_inst _) ?_;go_frame)|((with_reducible refine gL 4 65 ?_);refine st_ll1 rfl one4 H _ rfl _ 15 rfl _ 85 mm0 _ (enC_15 _) ?_;go_frame)|(go_at_call 52;refine(kind_any y.i.op y.i.rd y.i.r1 y.i.r2 y.i.imm.v _).mono ?_;rintro r w1 ⟨rfl,hb⟩;replace H:=H.below hb))
     go_ret
     exact⟨_,rfl,(fun h=>by first|(rw[E1.out,G1.out];rfl)|cases h),H.mq⟩
  | false=>
   have E2:=Lib.hid (E0.out.trans (if_neg (by simpa using e3)))
   clear E0
   cases e4:(kd y.i.op== 4)with
   | true=>
    have E1:=Lib.hid (E2.out.trans (if_pos (by simpa using e4)))
    clear E2
    cases hk:y.known with
    | true=>
     have G1:=Lib.hid hk
     go_wp2_with (first|((with_reducible refine gL 83 60 ?_);refine st_llr rfl row83 H _ rfl _ 2 rfl _ 85 mm0 (inC _) rfl (sub_inst _) ?_;go_frame)|((with_reducible refine gL 4 75 ?_);refine st_ll1 rfl one4 H _ rfl _ 15 rfl _ 85 mm0 _ (enC_15 _) ?_;go_frame)|(go_at_call 52;refine(kind_any y.i.op y.i.rd y.i.r1 y.i.r2 y.i.imm.v _).mono ?_;rintro r w1 ⟨rfl,hb⟩;replace H:=H.below hb))
     go_ret
     exact⟨_,rfl,(fun h=>by cases h),H.mq⟩
    | false=>
     have G1:=Lib.hid hk
     cases rb<;>cases mb
     all_goals
      go_wp2_with (first|((with_reducible refine gL 83 60 ?_);refine st_llr rfl row83 H _ rfl _ 2 rfl _ 85 mm0 (inC _) rfl (sub_inst _) ?_;go_frame)|((with_reducible refine gL 4 75 ?_);refine st_ll1 rfl one4 H _ rfl _ 15 rfl _ 85 mm0 _ (enC_15 _) ?_;go_frame)|(go_at_call 52;refine(kind_any y.i.op y.i.rd y.i.r1 y.i.r2 y.i.imm.v _).mono ?_;rintro r w1 ⟨rfl,hb⟩;replace H:=H.below hb))
      go_ret
      exact⟨_,rfl,(fun h=>by first|(rw[E1.out,G1.out];rfl)|cases h),H.mq⟩
   | false=>
    have E1:=Lib.hid (E2.out.trans (if_neg (by simpa using e4)))
    clear E2
    go_wp2_with (first|((with_reducible refine gL 83 60 ?_);refine st_llr rfl row83 H _ rfl _ 2 rfl _ 85 mm0 (inC _) rfl (sub_inst _) ?_;go_frame)|(go_at_call 52;refine(kind_any y.i.op y.i.rd y.i.r1 y.i.r2 y.i.imm.v _).mono ?_;rintro r w1 ⟨rfl,hb⟩;replace H:=H.below hb))
    go_wp2_with fail
    refine beginS 11 (l0:=zz19) H (by kernel_rfl) ?_ (by kernel_rfl);clear H;intro H
    iterate 4 refine rP H ?_;go_frame
    refine tC 4 89 rfl (by kernel_rfl) iQ (by(exact yields_one one31 rfl _ rfl _ rfl _ (fun w h=>(h.cell 48).trans (coC_48 _ _)))) H ?_;go_frame
    iterate 4 refine rP H ?_;go_frame
    refine tC 9 94 rfl (by kernel_rfl) iQ (by(exact yields_row row29 rfl _ rfl _ _ rfl _ rfl (fun w h j v hj=>(h.cell _).trans (sub_regs _ _ j v hj)))) H ?_;go_frame
    refine tP 10 95 H ?_;go_frame
    refine o1C 11 96 (fun K hK=>?_)
    refine step_fn rfl _ _ _ (both_any (some ⟨r,off,none⟩) n C c.rob c.regs i _ H.m.r.rob.sl hi) (by go_simp<;>rfl) ?_;unfold BothP;rw[HB.out];rintro r1 w1 ⟨rfl,hb⟩;refine⟨_,rfl,?_⟩;replace H:=H.below hb
    refine hK.out _ _ (aB rfl) ?_;clear hK K;go_frame
    iterate 7 refine rQ rfl ?_;go_frame
    refine dnC ?_ _
    cases bi<;>cases mb
    all_goals
     go_wp2_with fail
     go_ret
     exact⟨_,rfl,(fun h=>by first|exact E1.out|cases h),H.mq⟩
theorem law3:Go.Maps.Keyed Tryz.prog 3:=Go.Maps.int_keyed Tryz.underlying3
def Mp(w:World)(b n:Nat):Prop:=∃ D:DataW Nat,w.ownsMap Tryz.prog 3 (plainElem Tryz.prog 3) b n D
theorem Mp.apart{α:Type}{lay:α→Array Value}{k:Nat}{w:World}{b n B e:Nat}{v:Value}{L:List α}(h:Mp w b n)(ho:Ow lay k w B e v L):some b≠v.ownBlock:=by
 intro q
 obtain⟨D,es,clock,hb,_⟩:=h
 rcases ho.1.2 with⟨rfl,_⟩|⟨g,cap,cur,rfl,_,hg,_⟩
 ·cases q
 ·simp[Value.ownBlock]at q
  subst q
  rw[hg]at hb
  cases hb
theorem Mp.kept{w w':World}{row:Option Nat}{b n:Nat}(h:Mp w b n)(hg:w.grownBy w' row)(hne:some b≠row):Mp w' b n:=by
 obtain⟨D,h⟩:=h
 exact⟨D,h.kept hg hne⟩
theorem Mp.mono{w:World}{b n m:Nat}(h:Mp w b n)(hn:n≤m):Mp w b m:=by
 obtain⟨D,h⟩:=h
 exact⟨D,h.mono hn⟩
theorem Mp.below{w w':World}{b n:Nat}(h:Mp w b n)(hb:Below w.heap.size w w'):Mp w' b n:=by
 obtain⟨D,es,clock,hb',F⟩:=h
 exact⟨D,es,clock,(hb.block b (Array.getElem?_eq_some_iff.1 hb').1).trans hb',F⟩
theorem unit_few(k:Int)(w:World):Calls Tryz.prog 95 #[.int .i64 k] w fun e w'=>(∃ x:Int,(x=0∨x=1∨x=2)∧e= .returned (.int .i64 x))∧w=w':=by
 go_enter Tryz.func95,Tryz.ntmps95
 go_wp2
 all_goals
  go_ret
  exact⟨⟨_,by first|exact .inl rfl|exact .inr (.inl rfl)|exact .inr (.inr rfl),rfl⟩,rfl⟩
def natsI(L:List Nat):List Int:=L.map fun(j:Nat)=>(j:Int)
def PickOk(cans:List Bool)(L:List Nat)(k:Nat):Prop:=(∀ i∈L,i<k∧cans[i]?=some true)∧L.Pairwise (· < ·)∧L.length≤k
theorem PickOk.up{cans:List Bool}{L:List Nat}{k:Nat}(h:PickOk cans L k):PickOk cans L (k+1):=⟨fun i hi=>⟨by have:=(h.1 i hi).1;omega,(h.1 i hi).2⟩,h.2.1,by have:=h.2.2;omega⟩
theorem PickOk.more{cans:List Bool}{L:List Nat}{k:Nat}(h:PickOk cans L k)(hk:cans[k]?=some true):PickOk cans (L++[k]) (k+1):=by
 refine⟨fun i hi=>?_,?_,by rw[List.length_append];have:=h.2.2;simp;omega⟩
 ·rcases List.mem_append.1 hi with hi|hi
  ·exact⟨by have:=(h.1 i hi).1;omega,(h.1 i hi).2⟩
  ·simp at hi;subst hi;exact⟨by omega,hk⟩
 ·rw[List.pairwise_append]
  exact⟨h.2.1,List.pairwise_singleton _ _,fun a ha b hb=>by simp at hb;subst hb;exact(h.1 a ha).1⟩
def PicksP(cans:List Bool)(w:World)(e:Ending)(w':World):Prop:=∃(A:Option Addr) (C:Nat) (L:List Nat),e= .returned (.slice A L.length C)∧Sl i64C 1 w' A L.length (natsI L)∧Wf A L.length C∧(∀ p,A=some p→w.heap.size≤p.block)∧(∀ i∈L,cans[i]?=some true)∧L.Pairwise (· < ·)∧Below w.heap.size w w'
theorem picks_end{cans:List Bool}{w w':World}{L:List Nat}{k:Nat}{v:Value}(h:Ow i64C 1 w' w.heap.size 3 v (natsI L))(hp:PickOk cans L k)(hb:Below w.heap.size w w'):PicksP cans w (.returned v) w':=by
 obtain⟨A,C,e,f1,f2,f3⟩:=h.sl2 i64C_size
 have hl:(natsI L).length=L.length:=by simp[natsI]
 rw[hl]at e f1 f2
 exact⟨A,C,L,by rw[e],f1,f2,f3,fun i hi=>(hp.1 i hi).2,hp.2.1,hb⟩
theorem ow_map{α:Type}{lay:α→Array Value}{k:Nat}{w w1:World}{b n B e:Nat}{v:Value}{L:List α}(ho:Ow lay k w B e v L)(h:Mp w b n)(hg:w.grownBy w1 (some b)):Ow lay k w1 B e v L:=by
 refine ho.same fun r hr=>?_
 have hne:=h.apart ho
 rcases ho.1.2 with⟨rfl,_⟩|⟨g,cap,cur,rfl,_,hg',_⟩
 ·cases hr
 ·simp[Value.ownBlock]at hr
  subst hr
  exact hg.block g (Array.getElem?_eq_some_iff.1 hg').1 (fun q=>hne (by simp[Value.ownBlock];cases q;rfl))
theorem mp_app{α:Type}{lay:α→Array Value}{k:Nat}{w w':World}{b n B e:Nat}{v:Value}{L:List α}{o:Obj}(h:Mp w b n)(ho:Ow lay k w B e v L)(g:(w.alloc o).grownBy w' v.ownBlock):Mp w' b n:=by
 have hb:Below w.heap.size w (w.alloc o):=(Below.refl _ w).alloc (Nat.le_refl _) o
 exact(h.below hb).kept g ((h.below hb).apart (ho.below hb))
theorem Mp.look{w:World}{b n:Nat}(H:Mp w b n)(i:Int)(wi:(Lit.int .i64 i).wf=true):∃ c,(Instr.lookup 161 (.map (some b)) (.int .i64 i) false).run Tryz.prog w= .ok (.int .i64 c) w:=by
 obtain⟨D,H⟩:=H
 obtain⟨c,h,_⟩:=H.lookup_int law3 Tryz.underlying161 Tryz.underlying3 (zero3 _) (Go.Maps.keyOf_int_mk Tryz.underlying3 wi)
 exact⟨c,h⟩
section
variable {w:World} {ops:Array Oper} {rest:List Oper} {o:Oper} {a:Act} {Q:Exit→Act→World→Prop}
theorem map_make(hgd:o.guard=none)(ho:o.op= .makeMap 161 none)(h:∀ w',Mp w' w.heap.size 0→Below w.heap.size w w'→wpList Tryz.prog ops Q rest (a.put o.dst (.map (some w.heap.size))) w'):wpList Tryz.prog ops Q (o::rest) a w:=
 wpList_plain hgd fun K hK=>by
  unfold Oper.wp execOp
  simp only[ho,Sem.run_bind,Sem.run_pure,Result.andThen_ok,Option.map_none,run_makeMap]
  exact hK _ _ (h _ ⟨_,World.ownsMap_made _ _ _ _⟩ ((Below.refl _ _).alloc (Nat.le_refl _) _))
theorem map_up(hgd:o.guard=none)(m x v:Operand)(ho:o.op= .mapUpdate 161 m x v)(b n:Nat)(hm:a.eval m= .map (some b))(H:Mp w b n)(hn:n≤100000)(i j:Int)(hx:a.eval x= .int .i64 i)(hv:a.eval v= .int .i64 j)(wi:(Lit.int .i64 i).wf=true)(wj:(Lit.int .i64 j).wf=true)
 (h:∀ w',Mp w' b (n+1)→w.grownBy w' (some b)→wpList Tryz.prog ops Q rest (a.put o.dst undef) w'):wpList Tryz.prog ops Q (o::rest) a w:=by
 obtain⟨D,H⟩:=H
 exact wpList_mapUpdate_own _ hgd m x v 161 ho 3 3 law3 Tryz.underlying161 _ b n D hm H (by unfold maxLen;omega) _ _ _ hx hv (Go.Maps.keyOf_int_mk Tryz.underlying3 wi) _ [] (plainElem_int Tryz.underlying3 wj) fun w' h1 h2=>h w' ⟨_,h1⟩ h2
end
theorem pick_any(width:Int)(busy:Bool)(A:Option Addr)(n C:Nat)(kinds:List Int)(B:Option Addr)(m D:Nat)(cans:List Bool)(w:World)(hK:Sl i64C 1 w A n kinds)(hC:Sl bolC 1 w B m cans)(hm:m≤100000):Calls Tryz.prog 63 #[.int .i64 width,.bool busy,.slice A n C,.slice B m D] w (PicksP cans w):=by
 have H:=Lo.start w
 have HK:=Lib.hid hK
 have HC:=Lib.hid hC
 have e1:=hK.few
 clear hK hC
 have hlaps:∀ W:World,Mp W w.heap.size 1→Below w.heap.size w W→∃ k L,k≤m∧(Value.int .i64 0)= .int .i64 (k:Int)∧Hid (Ow i64C 1 W w.heap.size 3 (.slice none 0 0) (natsI L))∧Hid (PickOk cans L k)∧Hid (Mp W w.heap.size (k+1))∧Below w.heap.size w W:=fun W h1 h2=>⟨0,[],Nat.zero_le _,rfl,Lib.hid ⟨⟨by simp[flat,natsI],.inl ⟨rfl,by simp[natsI]⟩⟩,by simp[natsI]⟩,Lib.hid ⟨by simp,by simp,by simp⟩,Lib.hid h1,h2⟩
 cases busy
 all_goals
  go_enter Tryz.func63,Tryz.ntmps63
  go_wp2_with (first|(go_step3)|((with_reducible refine gD (Op.makeMap 161 _) ?_);refine map_make rfl rfl ?_;intro w1 hm1 hb1;have HM:=Lib.hid hm1;have HB:=Lib.hid hb1;clear hm1 hb1)|((with_reducible refine gD (Op.mapUpdate 161 _ _ _) ?_);refine map_up rfl _ _ _ rfl w.heap.size 0 rfl HM.out (by omega) 1 1 rfl rfl (by decide) (by decide) ?_;intro w1 hm1 hg1;have HM2:=Lib.hid hm1;have HB2:=Lib.hid (HB.out.grown hg1 HB.out.size (fun j hj=>by cases hj;exact Nat.le_refl _));clear HM HB hm1 hg1;have HM:=HM2;have HB:=HB2;clear HM2 HB2))
  clear H
  go_loopw [10,20] (fun v i wr=>∃ k L,k≤m∧i= .int .i64 (k:Int)∧Hid (Ow i64C 1 wr w.heap.size 3 v (natsI L))∧Hid (PickOk cans L k)∧Hid (Mp wr w.heap.size (k+1))∧Below w.heap.size w wr) (fun _ i _=>m-(intOf i).toNat)
  case atStart=>exact hlaps _ (HM.out.mono (by omega)) HB.out
  case round=>
   clear hlaps HM HB
   obtain⟨k,L,hk,rfl,HG,HP,HM,hB⟩:=hrel
   have HB:=Lib.hid hB
   obtain⟨A',C',e,f1,f2,f3⟩:=HG.out.sl2 i64C_size
   have hl:(natsI L).length=L.length:=by simp[natsI]
   have hl2:=HP.out.2.2
   rw[hl]at e
   subst e
   clear f1 f2 f3
   by_cases hlt:k<m
   ·have hlt2:(k:Int)<m:=by omega
    obtain⟨gB,oB,y,eB,hgB,hy,hcB⟩:=HC.out.at_ hlt
    subst eB
    have hc1:wr.cell? ⟨gB,oB+k,none⟩=some (.bool y):=by
     have:=(hB.cell (p:=⟨gB,_,none⟩) hgB).trans (hcB 0 (.bool y) rfl)
     simpa only[Nat.mul_one,Nat.add_zero] using this
    have HY:=Lib.hid hy
    have hkin:k<n→∃ q,Hid (∀ g o,A=some ⟨g,o,none⟩→wr.cell? ⟨g,o+k,none⟩=some (.int .i64 q))∧∃ g o,A=some ⟨g,o,none⟩:=fun hn=>by
     obtain⟨gA,oA,q,eA,hgA,hq,hcA⟩:=HK.out.at_ hn
     subst eA
     have:=(hB.cell (p:=⟨gA,_,none⟩) hgA).trans (hcA 0 (.int .i64 q) rfl)
     simp only[Nat.mul_one,Nat.add_zero]at this
     exact⟨q,Lib.hid (fun g o e=>by cases e;exact this),gA,oA,rfl⟩
    clear hy hcB hgB hB
    by_cases hn:k<n
    obtain⟨q,hq,gA,oA,eA⟩:=hkin hn
    have hq1:=hq.out _ _ eA
    have hn2:(k:Int)<n:=by omega
    subst eA
    clear hq hkin
    rotate_left
    have hn2:(n:Int)≤k:=by omega
    clear hkin
    rotate_left
    all_goals
     cases y with
     | false=>
      go_wp2
      all_goals try(rw[Exit.noGoto_ret];go_ret;exact picks_end HG.out HP.out HB.out)
      all_goals go_roundw
      all_goals first
       | exact⟨k+1,L,by omega,by go_num,HG,Lib.hid HP.out.up,Lib.hid (HM.out.mono (by omega)),HB.out⟩|(simp[intOf];omega)
     | true=>
      go_wp2_with (first|(go_at_call 95;refine(unit_few _ _).mono ?_;rintro r w1 ⟨⟨x,hx,rfl⟩,rfl⟩;have hwx:(Lit.int .i64 x).wf=true:=(by rcases hx with rfl|rfl|rfl<;>decide);obtain⟨cx,rx⟩:=HM.out.look x hwx;obtain⟨c0,r0⟩:=HM.out.look 0 (by decide);have HWX:=Lib.hid hwx;clear hx hwx)|((with_reducible refine gD (Op.mapUpdate 161 _ _ _) ?_);(refine map_up rfl _ _ _ rfl w.heap.size (k+1) rfl HM.out (by omega) _ _ rfl rfl (by first|exact HWX.out|decide) (wrap64_wf _) ?_);intro w1 hm1 hg1;have HM2:=Lib.hid hm1;have HB2:=Lib.hid (HB.out.grown hg1 HB.out.size (fun j hj=>by cases hj;exact Nat.le_refl _));have HG2:=Lib.hid (ow_map HG.out HM.out hg1);clear hm1 hg1)|(at_builtin;(refine app_sl slT22 i64C_size i64C_ones rfl _ _ rfl w.heap.size _ (natsI L) rfl (HG2.out.below ((Below.refl _ _).alloc (Nat.le_refl _) _)) (some ⟨_,0,none⟩) 1 1 [(k:Int)] rfl (Sl.new (t:=3) (fr:=(0,0)) i64C_size (heap_alloc_new _ _) (by simp)) (fun h=>by cases h) (by rw[hl];simp;omega) (by rw[World.size_alloc];have:=HB2.out.size;omega) ?_);intro v3 w3 h3 g3;(have HM3:=Lib.hid (mp_app HM2.out HG2.out g3));(have HB3:=Lib.hid (bl_own (HB2.out.alloc HB2.out.size _) g3 (by rw[World.size_alloc];have:=HB2.out.size;omega) HG2.out.row));(have HG3:=Lib.hid (show Ow i64C 1 w3 w.heap.size 3 v3 (natsI (L++[k])) by(have e:natsI (L++[k])=natsI L++[(k:Int)]:=by simp[natsI]);rw[e];exact h3));clear h3 g3;obtain⟨A3,C3,e3,_,_,_⟩:=HG3.out.sl2 i64C_size;rw[show(natsI (L++[k])).length=L.length+1 by simp[natsI]]at e3;subst e3))
      all_goals try(rw[Exit.noGoto_ret];go_ret;exact picks_end HG.out HP.out HB.out)
      all_goals try go_roundw
      all_goals first
       | exact⟨k+1,L,by omega,by go_num,HG,Lib.hid HP.out.up,Lib.hid (HM.out.mono (by omega)),HB.out⟩
       | exact⟨k+1,L++[k],by omega,by go_num,HG3,Lib.hid (HP.out.more HY.out),HM3,HB3.out⟩|(simp[intOf];omega)
   ·have:k=m:=by omega
    subst this
    go_wp2
    rw[Exit.noGoto_ret]
    go_ret
    exact picks_end HG.out HP.out hB
def StartsS(c c':Co):Prop:=
 (c.halt≠0∧c'=c)∨(c.halt=0∧∃ ps:List (Nat×Bool),(∀ p∈ps,p.1<c.rob.length∧canB c p.1=true)∧(ps.map (·.1)).Pairwise (· < ·)∧c'=ps.foldl (fun c p=>start1 p.2 c p.1) c)
structure StK(c x:Co)(k:Nat):Prop where
 conf:x.conf=c.conf
 ph:x.ph=c.ph
 halt:x.halt=c.halt
 bus:x.bus.length≤c.bus.length+k
 rob:x.rob.length=c.rob.length
 data:x.data=c.data
 mem:x.mem=c.mem
 stores:x.stores=c.stores
theorem StK.refl(c:Co):StK c c 0:=⟨rfl,rfl,rfl,Nat.le_refl _,rfl,rfl,rfl,rfl⟩
theorem StK.set{c x:Co}{k:Nat}(h:StK c x k)(i:Nat)(e:En):StK c (setE x i e) k:=⟨h.conf,h.ph,h.halt,h.bus,by unfold setE;simp[h.rob],h.data,h.mem,h.stores⟩
theorem StK.up{c x:Co}{k:Nat}(h:StK c x k):StK c x (k+1):=⟨h.conf,h.ph,h.halt,by have:=h.bus;omega,h.rob,h.data,h.mem,h.stores⟩
theorem StK.load{c x:Co}{k:Nat}(h:StK c x k)(v:Bool)(i:Nat):StK c (load1 v x i) (k+1):=by
 unfold load1
 simp only
 split
 ·exact h.up
 ·split
  ·exact(h.set _ _).up
  ·split
   ·exact h.up
   ·split
    ·exact(h.set _ _).up
    ·split
     ·exact(h.set _ _).up
     ·split
      ·have q:StK c (askC x 1 (lineU (x.rob.getD i default).addr) []) (k+1):=⟨h.conf,h.ph,h.halt,by have:=h.bus;simp[askC,pushQ];omega,h.rob,h.data,h.mem,h.stores⟩
       exact q.set _ _
      ·exact h.up
theorem StK.start{c x:Co}{k:Nat}(h:StK c x k)(v:Bool)(i:Nat):StK c (start1 v x i) (k+1):=by
 unfold start1
 simp only
 split
 ·exact(h.set _ _).up
 ·split
  ·exact(h.set _ _).load v i
  ·exact(h.set _ _).up
def Sts(c:Co)(L:List Nat)(k:Nat)(x:Co):Prop:=∃ ps:List (Nat×Bool),ps.map (·.1)=L.take k∧x=ps.foldl (fun c p=>start1 p.2 c p.1) c
theorem Sts.next{c x:Co}{L:List Nat}{k i:Nat}(h:Sts c L k x)(hi:L[k]?=some i)(v:Bool):Sts c L (k+1) (start1 v x i):=by
 obtain⟨ps,h1,h2⟩:=h
 exact⟨ps++[(i,v)],by rw[List.map_append,h1,List.take_add_one,hi];rfl,by rw[List.foldl_append,← h2];rfl⟩
theorem Sts.keep{c x:Co}{L:List Nat}{k:Nat}(h:Sts c L k x):StK c x k:=by
 obtain⟨ps,h1,h2⟩:=h
 have hl:ps.length≤k:=by have:=congrArg List.length h1;rw[List.length_map,List.length_take]at this;omega
 subst h2
 suffices q:∀(ps:List (Nat×Bool)) (y:Co) (j:Nat),StK c y j→StK c (ps.foldl (fun c p=>start1 p.2 c p.1) y) (j+ps.length) by
  have:=q ps c 0 (StK.refl c)
  exact⟨this.conf,this.ph,this.halt,by have:=this.bus;omega,this.rob,this.data,this.mem,this.stores⟩
 intro ps
 induction ps with
 | nil=>intro y j h;exact h
 | cons p ps ih=>
  intro y j h
  have:=ih (start1 p.2 y p.1) (j+1) (h.start p.2 p.1)
  rw[List.length_cons,show j+(ps.length+1)=j+1+ps.length by omega]
  exact this
theorem Sts.done{c x:Co}{L:List Nat}{k:Nat}(h:Sts c L k x)(hk:L.length≤k)(h0:c.halt=0)(hL:∀ i∈L,i<c.rob.length∧canB c i=true)(hp:L.Pairwise (· < ·)):StartsS c x:=by
 obtain⟨ps,h1,h2⟩:=h
 rw[List.take_of_length_le hk]at h1
 refine .inr ⟨h0,ps,fun p hp=>hL p.1 (by rw[← h1];exact List.mem_map_of_mem hp),by rw[h1];exact hp,h2⟩
theorem set_can{c:Co}{B:List Bool}{k:Nat}{b:Bool}(h:∀ j,B[j]?=some true→j<k∧canB c j=true)(hb:b=true→canB c k=true):∀ j,(B.set k b)[j]?=some true→j<k+1∧canB c j=true:=by
 intro j hj
 by_cases e:k=j
 ·subst e
  rcases Nat.lt_or_ge k B.length with q|q
  ·rw[List.getElem?_set_self q,Option.some.injEq]at hj
   exact⟨by omega,hb hj⟩
  ·rw[List.getElem?_eq_none (by simp;omega)]at hj;cases hj
 ·rw[List.getElem?_set_ne e]at hj
  exact⟨by have:=(h j hj).1;omega,(h j hj).2⟩
theorem pw_len{L:List Nat}{n:Nat}(h:L.Pairwise (· < ·))(hb:∀ i∈L,i<n):L.length≤n:=by
 have key:∀(L:List Nat) (a:Nat),L.Pairwise (· < ·)→(∀ i∈L,a≤i∧i<n)→L.length≤n-a:=by
  intro L
  induction L with
  | nil=>intro a _ _;exact Nat.zero_le _
  | cons x L ih=>
   intro a h hb
   have h1:=List.pairwise_cons.1 h
   have h2:=hb x mm0
   have:=ih (x+1) h1.2 (fun i hi=>⟨h1.1 i hi,(hb i (List.mem_cons_of_mem _ hi)).2⟩)
   rw[List.length_cons]
   omega
 have:=key L 0 h (fun i hi=>⟨Nat.zero_le _,hb i hi⟩)
 omega
theorem starts_m(w0 w:World)(g:Nat)(κ:Nat→Nat)(c:Co)(s:Ss)(M:MS w0 w g κ c s)(hf:rightF c.conf=true)(hr:rightC c.data=true)(hm:c.mem.length≤1000000)(hn:c.bus.length≤800000)(hs:∀ p∈c.stores,p.data.length≤1000000)(hl:c.rob.length≤100000):Calls Tryz.prog 24 #[.pointer (some ⟨g,0,none⟩)] w fun e w'=>e= .returned (.tuple #[])∧∃ c',StartsS c c'∧MP w0 w g κ c' w':=by
 have H:=St'.start M
 have HF:=Lib.hid hf
 have HR:=Lib.hid hr
 have HM:=Lib.hid hm
 have HN:=Lib.hid hn
 have HS:=Lib.hid hs
 have lr:=M.r.rob.sl.len
 clear M hf hr hm hn hs
 cases e0:(c.halt != 0)with
 | true=>
  have STP:=(show StartsS c c from .inl ⟨by simpa using e0,rfl⟩)
  go_enter Tryz.func24,Tryz.ntmps24
  go_wp2_with (((with_reducible refine gL 3 12 ?_);refine st_ld1 rfl one3 H _ rfl 62 rfl _ (coC_62 _ _) ?_;go_frame))
  ((try simp only[Exit.inBlock,Exit.then]);refine bodyPost_ret (results_none rfl _ _ _) rfl ?_)
  exact⟨rfl,_,STP,H.mp⟩
 | false=>
  have H0:=Lib.hid (show c.halt=0 by simpa using e0)
  by_cases hz:s.rob.n=0
  ·have ER:=Lib.hid (List.eq_nil_of_length_eq_zero (l:=c.rob) (by omega))
   have e0:s={ s with rob:=⟨s.rob.a,0,s.rob.c⟩ }:=by rw[← hz]
   rw[e0]at H
   clear e0 hz lr
   generalize s.rob.a=A at H
   generalize s.rob.c=C at H
   go_enter Tryz.func24,Tryz.ntmps24
   go_wp2_with (first|((with_reducible refine gL 3 12 ?_);refine st_ld1 rfl one3 H _ rfl 62 rfl _ (coC_62 _ _) ?_;go_frame)|((with_reducible refine gL 31 18 ?_);refine st_ld1 rfl one31 H _ rfl 48 rfl _ (coC_48 _ _) ?_;go_frame)|((with_reducible refine gL 31 25 ?_);refine st_ld1 rfl one31 H _ rfl 48 rfl _ (coC_48 _ _) ?_;go_frame)|((with_reducible refine gL 31 32 ?_);refine st_ld1 rfl one31 H _ rfl 48 rfl _ (coC_48 _ _) ?_;go_frame)|((with_reducible refine gD (Op.makeSlice 22 _ _) ?_);refine st_zero0 (α:=Int) (lay:=i64C) slT22' 0 (by kernel_rfl) i64C_sizeb rfl _ _ rfl rfl rfl H ?_;clear H;intro w1 b3 H;try simp only[Act.put,xA,xB,xC,fR])|((with_reducible refine gD (Op.makeSlice 122 _ _) ?_);refine st_zero0 (α:=Bool) (lay:=bolC) slT122b false (by kernel_rfl) bolC_sizeb rfl _ _ rfl rfl rfl H ?_;clear H;intro w1 b4 H;try simp only[Act.put,xA,xB,xC,fR]))
   refine wp_loop_rounds 1 ?_
   rw[rounds_succ]
   go_wp2_with (first|((with_reducible refine gL 3 67 ?_);refine st_ld1 rfl one3 H _ rfl 1 rfl _ (coC_1 _ _) ?_;go_frame)|(go_at_call 63;refine(pick_any c.conf.width false (some ⟨b3,0,none⟩) 0 0 [] (some ⟨b4,0,none⟩) 0 0 [] _ (Sl.none_ _) (Sl.none_ _) (by decide)).mono ?_;unfold PicksP;rintro r1 w1 ⟨A1,C1,L,rfl,_,_,_,hL,_,hb⟩;have hL0:L=[]:=(by cases L with|nil=>rfl|cons a T=>have:=hL a mm0;simp at this);subst hL0;have H1:=H.below hb;clear H hL;have H:=H1;clear H1))
   refine wp_loop_rounds 1 ?_
   rw[rounds_succ]
   go_wp2
   go_end0
   exact⟨rfl,c,.inr ⟨H0.out,[],(fun p hp=>by cases hp),List.Pairwise.nil,rfl⟩,H.mp⟩
  ·obtain⟨r,off,e0⟩:=H.robat (by omega)
   rw[e0]at H
   have hfew:s.rob.n≤100000:=by omega
   clear e0
   generalize s.rob.n=n at H hz lr hfew
   generalize s.rob.c=C at H
   have hn0:0<n:=by omega
   have hn6:n≤1000000:=by omega
   have LR:=Lib.hid lr
   clear hz lr
   go_enter Tryz.func24,Tryz.ntmps24
   go_wp2_with (first|((with_reducible refine gL 3 12 ?_);refine st_ld1 rfl one3 H _ rfl 62 rfl _ (coC_62 _ _) ?_;go_frame)|((with_reducible refine gL 31 18 ?_);refine st_ld1 rfl one31 H _ rfl 48 rfl _ (coC_48 _ _) ?_;go_frame)|((with_reducible refine gL 31 25 ?_);refine st_ld1 rfl one31 H _ rfl 48 rfl _ (coC_48 _ _) ?_;go_frame)|((with_reducible refine gL 31 32 ?_);refine st_ld1 rfl one31 H _ rfl 48 rfl _ (coC_48 _ _) ?_;go_frame)|((with_reducible refine gD (Op.makeSlice 22 _ _) ?_);refine st_zeros (α:=Int) (lay:=i64C) slT22' 0 (by kernel_rfl) i64C_sizeb rfl _ _ rfl n rfl rfl hn0 hn6 H ?_;clear H;intro w1 b3 κ1 H;try simp only[Act.put,xA,xB,xC,fR])|((with_reducible refine gD (Op.makeSlice 122 _ _) ?_);refine st_zeros (α:=Bool) (lay:=bolC) slT122b false (by kernel_rfl) bolC_sizeb rfl _ _ rfl n rfl rfl hn0 hn6 H ?_;clear H;intro w1 b4 κ1 H;try simp only[Act.put,xA,xB,xC,fR]))
   go_loopw [2,35] (fun bz i wr=>∃(k:Nat) (κ':Nat→Nat) (K:List Int) (B:List Bool) (b:Bool),k≤n∧i= .int .i64 (k:Int)∧bz= .bool b∧K.length=n∧B.length=n∧Hid (∀ j,B[j]?=some true→j<k∧canB c j=true)∧St' w0 w wr g κ κ' c { s with rob:=⟨some ⟨r,off,none⟩,n,C⟩ } [(b4,flat bolC B,4),(b3,flat i64C K,3)]) (fun _ i _=>n-(intOf i).toNat)
   case atStart=>exact⟨0,_,_,_,false,Nat.zero_le _,rfl,rfl,List.length_replicate,List.length_replicate,Lib.hid (fun j hj=>by rw[List.getElem?_replicate]at hj;split at hj<;>cases hj),H⟩
   case round=>
    clear H
    obtain⟨k,κ',K,B,b,hk,rfl,rfl,hKl,hBl,HG,H⟩:=hrel
    by_cases hlt:k<n
    ·obtain⟨r',off',cur,y,eA,_,_,_,hy,hcl⟩:=H.m.entry (i:=k) (by have:=LR.out;omega)
     cases eA
     have HC:=Lib.hid hcl
     have HI:=Lib.hid (show k<c.rob.length by have:=LR.out;omega)
     have b3':(0:Int)≤(k:Int):=by omega
     have b4':(k:Int)<(n:Int):=by omega
     have HK:=Lib.hid (show k<K.length by omega)
     have HBk:=Lib.hid (show k<B.length by omega)
     have HKl:=Lib.hid hKl
     have HBl:=Lib.hid hBl
     clear hy hcl hKl hBl
     have HKA:=Lib.hid (at_i64 (K.set k (kd y.i.op)) k (kd y.i.op) (List.getElem?_set_self HK.out))
     cases e2:(kd y.i.op== 2)with
     | false=>
      go_wp2_with (first|((with_reducible refine gL 85 38 ?_);refine st_lrow rfl row85 _ rfl r (off+k*17) rfl (enC y) rfl HC.out ?_;try simp only[Act.put,xA,xB,xC,fR])|((with_reducible refine gS 3 45 ?_);(refine st_SslI rfl cel3 2 b3 _ _ H rfl _ _ rfl k rfl _ rfl rfl rfl (by rw[flat_size i64C_sizeb];have:=HK.out;omega) _ (put_i64 K k (kd y.i.op) HK.out) rfl ?_);intro w1 ho1 H1;clear ho1 H;have H:=H1;clear H1;try simp only[Act.put,xA,xB,xC,fR])|((with_reducible refine gL 3 54 ?_);refine st_ll1 rfl one3 H _ rfl _ k rfl _ 3 mm2 _ HKA.out ?_;try simp only[Act.put,xA,xB,xC,fR])|((with_reducible refine gAl 85 ?_);refine st_al rfl (enC enZ) zero85 H rfl ?_;clear H;intro w1 b6 κ1 H;go_frame)|((with_reducible refine gS 85 6 ?_);refine st_slw rfl cel85 _ _ _ H _ _ rfl rfl _ rfl rfl rfl rfl ?_;clear H;intro w1 ho1 H;go_frame)|((with_reducible refine gL 83 42 ?_);refine st_llr rfl row83 H _ rfl _ 2 rfl _ 85 mm0 (inC _) rfl (sub_inst _) ?_;go_frame)|(go_at_call 52;refine(kind_any y.i.op y.i.rd y.i.r1 y.i.r2 y.i.imm.v _).mono ?_;rintro r w1 ⟨rfl,hb⟩;replace H:=H.below hb)|(go_at_call 62;refine(can_m w0 _ g _ c _ k H.m HI.out).mono ?_;unfold CanP;rintro r1 w1 ⟨cb,rfl,hcb,κ2,hm2,hk2,hs2⟩;have HCB:=Lib.hid hcb;have H1:=H.call hm2 hk2 hs2;clear H hm2 hk2 hs2 hcb;have H:=H1;clear H1)|((with_reducible refine gS 4 51 ?_);(refine st_SslI rfl cel4 1 b4 _ _ H rfl _ _ rfl k rfl _ rfl rfl rfl (by rw[flat_size bolC_sizeb];have:=HBk.out;omega) _ (put_bol B k _ HBk.out) rfl ?_);intro w1 ho1 H1;clear ho1 H;have H:=H1;clear H1;try simp only[Act.put,xA,xB,xC,fR]))
      go_roundw
      all_goals first
       | exact⟨k+1,_,K.set k (kd y.i.op),B.set k _,_,by omega,by go_num,rfl,by rw[List.length_set];exact HKl.out,by rw[List.length_set];exact HBl.out,Lib.hid (set_can HG.out HCB.out),H.drop⟩|(simp[intOf];omega)
     | true=>
      cases e1:(y.is== 1)
      all_goals
       skip
       go_wp2_with (first|((with_reducible refine gL 85 38 ?_);refine st_lrow rfl row85 _ rfl r (off+k*17) rfl (enC y) rfl HC.out ?_;try simp only[Act.put,xA,xB,xC,fR])|((with_reducible refine gS 3 45 ?_);(refine st_SslI rfl cel3 2 b3 _ _ H rfl _ _ rfl k rfl _ rfl rfl rfl (by rw[flat_size i64C_sizeb];have:=HK.out;omega) _ (put_i64 K k (kd y.i.op) HK.out) rfl ?_);intro w1 ho1 H1;clear ho1 H;have H:=H1;clear H1;try simp only[Act.put,xA,xB,xC,fR])|((with_reducible refine gL 3 54 ?_);refine st_ll1 rfl one3 H _ rfl _ k rfl _ 3 mm2 _ HKA.out ?_;try simp only[Act.put,xA,xB,xC,fR])|((with_reducible refine gAl 85 ?_);refine st_al rfl (enC enZ) zero85 H rfl ?_;clear H;intro w1 b6 κ1 H;go_frame)|((with_reducible refine gS 85 6 ?_);refine st_slw rfl cel85 _ _ _ H _ _ rfl rfl _ rfl rfl rfl rfl ?_;clear H;intro w1 ho1 H;go_frame)|((with_reducible refine gL 83 42 ?_);refine st_llr rfl row83 H _ rfl _ 2 rfl _ 85 mm0 (inC _) rfl (sub_inst _) ?_;go_frame)|((with_reducible refine gL 3 58 ?_);refine sTj rfl ?_;refine wp_ll1 one3 H _ rfl _ 8 rfl _ 85 mm0 _ (enC_8 _) ?_;go_frame)|(go_at_call 52;refine(kind_any y.i.op y.i.rd y.i.r1 y.i.r2 y.i.imm.v _).mono ?_;rintro r w1 ⟨rfl,hb⟩;replace H:=H.below hb)|(go_at_call 62;refine(can_m w0 _ g _ c _ k H.m HI.out).mono ?_;unfold CanP;rintro r1 w1 ⟨cb,rfl,hcb,κ2,hm2,hk2,hs2⟩;have HCB:=Lib.hid hcb;have H1:=H.call hm2 hk2 hs2;clear H hm2 hk2 hs2 hcb;have H:=H1;clear H1)|((with_reducible refine gS 4 51 ?_);(refine st_SslI rfl cel4 1 b4 _ _ H rfl _ _ rfl k rfl _ rfl rfl rfl (by rw[flat_size bolC_sizeb];have:=HBk.out;omega) _ (put_bol B k _ HBk.out) rfl ?_);intro w1 ho1 H1;clear ho1 H;have H:=H1;clear H1;try simp only[Act.put,xA,xB,xC,fR]))
       go_roundw
       all_goals first
        | exact⟨k+1,_,K.set k (kd y.i.op),B.set k _,_,by omega,by go_num,rfl,by rw[List.length_set];exact HKl.out,by rw[List.length_set];exact HBl.out,Lib.hid (set_can HG.out HCB.out),H.drop⟩|(simp[intOf];omega)
    ·have hkn:k=n:=by omega
     subst hkn
     have HSK:=Lib.hid (show Sl i64C 1 wr (some ⟨b3,0,none⟩) k K by have:=Sl.new i64C_sizeb (H.lc _ mm1).1 (by omega);rwa [hKl]at this)
     have HSB:=Lib.hid (show Sl bolC 1 wr (some ⟨b4,0,none⟩) k B by have:=Sl.new bolC_sizeb (H.lc _ mm0).1 (by omega);rwa [hBl]at this)
     have HG0:=H.drop.drop
     clear H
     have H:=HG0
     clear HG0
     go_wp2_with (first|((with_reducible refine gL 3 67 ?_);refine st_ld1 rfl one3 H _ rfl 1 rfl _ (coC_1 _ _) ?_;go_frame)|(go_at_call 63;refine(pick_any c.conf.width b (some ⟨b3,0,none⟩) k k K (some ⟨b4,0,none⟩) k k B _ HSK.out HSB.out hfew).mono ?_;unfold PicksP;rintro r1 w1 ⟨A1,C1,L,rfl,hq1,hq2,hq3,hL,hp,hb⟩;have HRd:=Lib.hid (show Rd (fun j=>κ' j=0) i64C 1 w1 ⟨A1,L.length,C1⟩ (natsI L)from⟨hq1,hq2,fun _ p hp=>H.zero _ (hq3 p hp)⟩);have HL:=Lib.hid hL;have HPw:=Lib.hid hp;have H1:=H.below hb;clear H hq1 hq2 hq3 hL hp hb;have H:=H1;clear H1))
     have hLf:=HRd.out.sl.few
     simp only at hLf
     have HCL:=Lib.hid (show ∀ i∈L,i<c.rob.length∧canB c i=true from fun i hi=>⟨by have:=(HG.out i (HL.out i hi)).1;have:=LR.out;omega,(HG.out i (HL.out i hi)).2⟩)
     clear hKl hBl hlt hk
     go_loopw [74] (fun i wr=>∃(m:Nat) (κ2:Nat→Nat) (s':Ss) (x:Co),m≤L.length∧i= .int .i64 (m:Int)∧Hid (Sts c L m x)∧Hid (Rd (fun j=>κ2 j=0) i64C 1 wr ⟨A1,L.length,C1⟩ (natsI L))∧St' w0 w wr g κ κ2 x s' []) (fun i _=>L.length-(intOf i).toNat)
     case atStart=>exact⟨0,κ',_,c,Nat.zero_le _,rfl,Lib.hid ⟨[],rfl,rfl⟩,HRd,H⟩
     case round=>
      clear H HRd
      obtain⟨m,κ2,s',x,hm,rfl,HX,HRd,H⟩:=hrel
      by_cases hlt:m<L.length
      ·obtain⟨r2,off2,z,eA,hg2,hz2,hc2⟩:=HRd.out.sl.at_ (i:=m) hlt
       simp only at eA
       subst eA
       obtain⟨j,hj⟩:∃ j,L[m]?=some j:=⟨_,List.getElem?_eq_getElem hlt⟩
       have hzj:z=(j:Int):=by
        unfold natsI at hz2
        rw[List.getElem?_map,hj]at hz2
        cases hz2;rfl
       subst hzj
       have HC2:=Lib.hid (show wr.cell? ⟨r2,off2+m,none⟩=some (.int .i64 (j:Int)) by have:=hc2 0 (.int .i64 (j:Int)) rfl;simpa using this)
       have HJ:=Lib.hid hj
       have HK:=Lib.hid HX.out.keep
       have HJL:=Lib.hid (HCL.out j (List.mem_of_getElem? hj))
       have HLn:=Lib.hid (show m<100000∧x.bus.length≤900000 by
        have h1:=pw_len HPw.out (fun i hi=>(HCL.out i hi).1)
        have h2:=HK.out.bus
        have h3:=HN.out
        have h4:=LR.out
        omega)
       have b3':(0:Int)≤(m:Int):=by omega
       have b4':(m:Int)<(L.length:Int):=by omega
       clear hg2 hz2 hc2 hj
       go_wp2_with (first|((with_reducible refine gL 3 76 ?_);refine st_lone rfl one3 _ rfl ⟨r2,off2+m,none⟩ rfl _ HC2.out ?_;try simp only[Act.put,xA,xB,xC,fR])|(go_at_call 64;(refine(start_m w0 _ g _ x _ j H.m (by rw[HK.out.rob];exact HJL.out.1) (by rw[HK.out.conf];exact HF.out) (by rw[HK.out.data];exact HR.out) (by rw[HK.out.mem];exact HM.out) HLn.out.2 (by rw[HK.out.stores];exact HS.out)).mono ?_);rintro r1 w1 ⟨rfl,v,κ3,s3,hm3,hk3,hs3⟩;have HRd2:=Lib.hid (HRd.out.kp hk3 hs3);have H1:=H.call hm3 hk3 hs3;clear H HRd hm3 hk3 hs3;have H:=H1;clear H1))
       go_roundw
       all_goals first
        | exact⟨m+1,_,_,_,by omega,by go_num,Lib.hid (HX.out.next HJ.out _),HRd2,H⟩|(simp[intOf];omega)
      ·have hkn:m=L.length:=by omega
       subst hkn
       go_wp2
       go_end0
       exact⟨rfl,x,HX.out.done (Nat.le_refl _) H0.out HCL.out HPw.out,H.mp⟩
theorem bytesS_len4(x:U)(n:Int):(bytesS x n).1.length≤4:=by
 unfold bytesS
 split
 ·exact Nat.zero_le _
 ·simp only[bytesL,byOf,List.length_map,List.length_range];omega
theorem storedS_data{s:St}{p:Pt}(h:storedS s=some p):p.data.length≤4:=by
 unfold storedS at h
 split at h
 ·cases h
 ·cases h;exact bytesS_len4 _ _
theorem bringQ_len(c:Ca)(q:List Rq)(m:By)(line:U)(left:Int):(bringQ c q m line left).2.1.length≤q.length+1:=by
 unfold bringQ
 split
 ·split
  ·simp only;omega
  ·simp only
   split
   ·simp[pushQ]
   ·simp only;omega
 ·simp only;omega
structure RtK(c x:Co)(k:Nat):Prop where
 conf:x.conf=c.conf
 ph:x.ph=c.ph
 bus:x.bus.length≤c.bus.length+k
 rob:x.rob.length≤c.rob.length
 mem:x.mem=c.mem
 retired:x.retired.length≤c.retired.length+k
 stores:x.stores.length≤c.stores.length+k
 data:∀ p∈x.stores,p∈c.stores∨p.data.length≤4
theorem RtK.refl(c:Co):RtK c c 0:=⟨rfl,rfl,Nat.le_refl _,Nat.le_refl _,rfl,Nat.le_refl _,Nat.le_refl _,fun p h=>.inl h⟩
theorem RtK.up{c x:Co}{k:Nat}(h:RtK c x k):RtK c x (k+1):=⟨h.conf,h.ph,by have:=h.bus;omega,h.rob,h.mem,by have:=h.retired;omega,by have:=h.stores;omega,h.data⟩
theorem RtK.bring{c x:Co}{k:Nat}(h:RtK c x k)(hb:x.bus.length≤c.bus.length+k)(line:U):RtK c (bringC x line) (k+1):=
 ⟨h.conf,h.ph,by have:=bringQ_len x.data x.bus x.mem line (latF x.conf x.asked);unfold bringC;simp only;omega,h.rob,h.mem,by have:=h.retired;show x.retired.length≤_;omega,by have:=h.stores;show x.stores.length≤_;omega,h.data⟩
theorem RtK.next{c x:Co}{k:Nat}(h:RtK c x k)(g:Gu):RtK c (retire1 g x) (k+1):=by
 unfold retire1
 split
 ·exact h.up
 ·split
  ·exact h.up
  ·rename_i e l hl
   have hr:=h.rob
   rw[hl,List.length_cons]at hr
   split
   ·exact h.up
   ·simp only
    split
    ·exact⟨h.conf,h.ph,by have:=h.bus;show x.bus.length≤_;omega,Nat.zero_le _,h.mem,by have:=h.retired;simp;omega,by have:=h.stores;show x.stores.length≤_;omega,h.data⟩
    ·split
     ·exact h.up
     ·have hd:∀ p∈x.stores++(storedS (toldE e)).toList,p∈c.stores∨p.data.length≤4:=fun p hp=>by
       rcases List.mem_append.1 hp with q|q
       ·exact h.data p q
       ·exact .inr (storedS_data (Option.mem_toList.1 q))
      have hsl:(x.stores++(storedS (toldE e)).toList).length≤c.stores.length+(k+1):=by
       have:=h.stores
       rw[List.length_append]
       have:(storedS (toldE e)).toList.length≤1:=by cases storedS (toldE e)<;>simp
       omega
      have hrt:(x.retired++[toldE e]).length≤c.retired.length+(k+1):=by have:=h.retired;simp;omega
      split
      ·have q:=bringQ_len x.data x.bus x.mem (toldE e).addr (latF x.conf x.asked)
       exact⟨h.conf,h.ph,by have:=h.bus;unfold bringC;simp only;omega,by simp only;omega,h.mem,hrt,hsl,hd⟩
      ·exact⟨h.conf,h.ph,by have:=h.bus;show x.bus.length≤_;omega,by simp only;omega,h.mem,hrt,hsl,hd⟩
def Rts(c:Co)(k:Nat)(x:Co):Prop:=∃ gs:List Gu,gs.length=k∧x=gs.foldl (fun c g=>retire1 g c) c
theorem Rts.next{c x:Co}{k:Nat}(h:Rts c k x)(g:Gu):Rts c (k+1) (retire1 g x):=by
 obtain⟨gs,h1,h2⟩:=h
 exact⟨gs++[g],by simp[h1],by rw[List.foldl_append,← h2];rfl⟩
theorem Rts.keep{c x:Co}{k:Nat}(h:Rts c k x):RtK c x k:=by
 obtain⟨gs,h1,h2⟩:=h
 subst h1 h2
 suffices q:∀(gs:List Gu) (y:Co) (j:Nat),RtK c y j→RtK c (gs.foldl (fun c g=>retire1 g c) y) (j+gs.length) by
  have:=q gs c 0 (RtK.refl c)
  rwa [Nat.zero_add]at this
 intro gs
 induction gs with
 | nil=>intro y j h;exact h
 | cons g gs ih=>
  intro y j h
  have:=ih (retire1 g y) (j+1) (h.next g)
  rw[List.length_cons,show j+(gs.length+1)=j+1+gs.length by omega]
  exact this
theorem Rts.stop{c x:Co}{k W:Nat}(h:Rts c k x)(hk:k≤W)(hs:∀ g,retire1 g x=x):Rts c W x:=by
 obtain⟨gs,h1,h2⟩:=h
 refine⟨gs++List.replicate (W-k) newG,by simp[h1];omega,?_⟩
 rw[List.foldl_append,← h2]
 generalize W-k=j
 induction j with
 | zero=>rfl
 | succ j ih=>rw[List.replicate_succ,List.foldl_cons,hs];exact ih
theorem Rts.retires{c x:Co}{W:Nat}(h:Rts c W x)(hW:c.conf.width=(W:Int)):RetiresR c x:=by
 obtain⟨gs,h1,h2⟩:=h
 exact⟨gs,by rw[hW,Int.toNat_natCast];exact h1,h2⟩
theorem ret_halt{x:Co}(h:x.halt≠0)(g:Gu):retire1 g x=x:=by unfold retire1;rw[if_pos h]
theorem ret_nil{x:Co}(h:x.rob=[])(g:Gu):retire1 g x=x:=by
 unfold retire1
 split
 ·rfl
 ·rw[h]
theorem ret_wait{x:Co}{e:En}{l:List En}(h:x.rob=e::l)(he:e.is≠3)(g:Gu):retire1 g x=x:=by
 unfold retire1
 split
 ·rfl
 ·rw[h];simp only;rw[if_pos he]
theorem ret_end{x:Co}{e:En}{l:List En}(h0:x.halt=0)(h:x.rob=e::l)(he:e.is=3)(hs:(toldE e).halt≠0)(g:Gu):retire1 g x={ x with retired:=x.retired++[toldE e],halt:=(toldE e).halt,rob:=[],fetched:=[],stop:=true }:=by
 unfold retire1
 rw[if_neg (by omega),h]
 simp only
 rw[if_neg (by omega),if_pos hs]
theorem ret_full{x:Co}{e:En}{l:List En}(h0:x.halt=0)(h:x.rob=e::l)(he:e.is=3)(hs:(toldE e).halt=0)(hf:(toldE e).store=true∧x.conf.stores≤x.stores.length)(g:Gu):retire1 g x=x:=by
 unfold retire1
 rw[if_neg (by omega),h]
 simp only
 rw[if_neg (by omega),if_neg (by omega),if_pos hf]
def retC(x:Co)(e:En):Co:=
 let c1:={ x with retired:=x.retired++[toldE e],stores:=x.stores++(storedS (toldE e)).toList }
 if kd e.i.op=3 then bringC c1 (toldE e).addr else c1
theorem ret_goes{x:Co}{e:En}{l:List En}(h0:x.halt=0)(h:x.rob=e::l)(he:e.is=3)(hs:(toldE e).halt=0)(hf:¬ ((toldE e).store=true∧x.conf.stores≤x.stores.length))(g:Gu):retire1 g x={ retC x e with regs:=applyR (retC x e).regs (toldE e),guess:=g,rob:=l }:=by
 unfold retire1
 rw[if_neg (by omega)]
 split
 ·rename_i q;rw[h]at q;cases q
 ·rename_i e' l' q
  rw[h]at q
  cases q
  simp only
  rw[if_neg (by omega),if_neg (by omega),if_neg hf]
  rfl
theorem applyR_len(r:List U)(s:St):(applyR r s).length=r.length:=by unfold applyR;split<;>simp
def StepS(c c':Co):Prop:=
 (rightCo c=false∧c'=c)∨(rightCo c=true∧∃ c3 c4 c6,RetiresR (worksC (ticksC { c with cycle:=wrap64 (c.cycle+1),ph:=0 })) c3∧StartsS c3 c4∧FetchesR { entersC c4 with ph:=1 } c6∧c'={ drainsC c6 with ph:=0 })
theorem Inv.ph{c:Co}(h:Inv c)(p:Nat):Inv { c with ph:=p }:=h.of rfl rfl rfl rfl h.rob h.sto
theorem Inv.cyc{c:Co}(h:Inv c)(x:Int):Inv { c with cycle:=x }:=h.of rfl rfl rfl rfl h.rob h.sto
theorem Inv.startsS{c c':Co}(h:Inv c)(hs:StartsS c c'):Inv c':=by
 rcases hs with⟨_,rfl⟩|⟨_,ps,h1,_,rfl⟩
 ·exact h
 ·exact Inv.startsF (c:=c) ps c h rfl (fun p hp=>(h1 p hp).1)
theorem Sz.startsS{c c':Co}(hs:StartsS c c'):Sz c c' c.rob.length:=by
 rcases hs with⟨_,rfl⟩|⟨_,ps,h1,h2,rfl⟩
 ·exact(Sz.refl _).up (Nat.zero_le _)
 ·have:=Sz.starts ps c 0 (Sz.refl c)
  refine this.up ?_
  have:=pw_len h2 (fun i hi=>by obtain⟨p,hp,rfl⟩:=List.mem_map.1 hi;exact(h1 p hp).1)
  rw[List.length_map]at this
  omega
theorem Inv.step{c c':Co}(h:Inv c)(hs:StepS c c'):Inv c':=by
 rcases hs with⟨_,rfl⟩|⟨_,c3,c4,c6,h1,h2,h3,rfl⟩
 ·exact h
 ·exact((((((h.cyc (wrap64 (c.cycle+1))).ph 0).ticks.works.retires h1).startsS h2).enters.ph 1).fetches h3).drains.ph 0
theorem wid{c:Co}(h:rightF c.conf=true):c.conf.width.toNat≤2:=by
 unfold rightF wi at h
 simp only[Bool.and_eq_true,decide_eq_true_eq]at h
 omega
theorem Sz.ph{a b:Co}{k:Nat}(h:Sz a b k)(p:Nat):Sz a { b with ph:=p } k:=⟨h.conf,h.mem,h.bus,h.retired,h.fetched,h.rob,h.stores,h.data⟩
structure Ri(c:Co):Prop where
 f:rightF c.conf=true
 mem:c.mem.length≤256
 rob:c.rob.length≤8
 fetched:c.fetched.length≤4
 stores:c.stores.length≤4
 data:∀ p∈c.stores,p.data.length≤4
theorem Ri.of{c:Co}(h:rightCo c=true):Ri c:=by
 unfold rightCo at h
 simp only[Bool.and_eq_true,decide_eq_true_eq,List.all_eq_true]at h
 obtain⟨⟨⟨⟨⟨⟨⟨⟨⟨⟨⟨h1,h2⟩,h3⟩,h4⟩,h5⟩,h6⟩,h7⟩,h8⟩,h9⟩,h10⟩,h11⟩,h12⟩:=h
 have hf:=h1
 unfold rightF wi at hf
 simp only[Bool.and_eq_true,decide_eq_true_eq]at hf
 refine⟨h1,by rw[h3];exact cleanM_len _,by omega,by omega,by omega,fun p hp=>?_⟩
 have:=h12 p hp
 unfold okAt at this
 simp only[decide_eq_true_eq]at this
 omega
theorem Sz.step{c c':Co}(hs:StepS c c'):Sz c c' 40:=by
 rcases hs with⟨_,rfl⟩|⟨hr,c3,c4,c6,h1,h2,h3,rfl⟩
 ·exact(Sz.refl _).up (by decide)
 ·have R:=Ri.of hr
  have s0:Sz c { c with cycle:=wrap64 (c.cycle+1),ph:=0 } 0:=⟨rfl,rfl,Nat.le_refl _,Nat.le_refl _,Nat.le_refl _,Nat.le_refl _,Nat.le_refl _,fun p h=>.inl h⟩
  have s1:=s0.trans ((Sz.ticks _).trans (Sz.works _))
  have w1:=wid (c:=worksC (ticksC { c with cycle:=wrap64 (c.cycle+1),ph:=0 })) (by rw[s1.conf];exact R.f)
  have s2:=s1.trans ((Sz.retires h1).up w1)
  have s3:=s2.trans ((Sz.startsS h2).up (show c3.rob.length≤16 by have:=s2.rob;have:=R.rob;omega))
  have w2:=wid (c:=c4) (by rw[s3.conf];exact R.f)
  have s4:=(s3.trans ((Sz.enters c4).up w2)).ph 1
  have w3:=wid (c:={ entersC c4 with ph:=1 }) (by rw[s4.conf];exact R.f)
  have s5:=s4.trans ((Sz.fetches h3).up w3)
  exact((s5.trans (Sz.drains c6)).ph 0).up (by decide)
theorem row42:IsRow 42 64:=⟨_,Tryz.underlying42,rfl,by kernel_rfl⟩
theorem cel42:Cel 42 64:=by unfold Cel;kernel_rfl
theorem cel25:Cel 25 11:=by unfold Cel;kernel_rfl
theorem cel67:Cel 67 64:=by unfold Cel;kernel_rfl
theorem row70:IsRow 70 7:=⟨_,Tryz.underlying70,rfl,by kernel_rfl⟩
theorem cel70:Cel 70 7:=by unfold Cel;kernel_rfl
def fnZ:Array Value:=#[.nilFunc,.nilFunc,.nilFunc,.nilFunc,.nilFunc,.nilFunc,.nilFunc]
theorem zero70(w:World):(zeroValue 70).run Tryz.prog w= .ok (.agg fnZ) w:=by kernel_rfl
def fnv(n:Nat):Value:=.func (.func n) #[] #[]
def stages:Array Value:=#[fnv 21,fnv 22,fnv 23,fnv 24,fnv 25,fnv 26,fnv 27]
theorem built70:Tryz.prog.built 70 [(0,fnv 21),(1,fnv 22),(2,fnv 23),(3,fnv 24),(4,fnv 25),(5,fnv 26),(6,fnv 27)]=some stages:=by kernel_rfl
def cfZ:Cf:=⟨0,0,0,0,0,0,0,0,[],false,[]⟩
def coZ:Co:=⟨cfZ,[],0,[],U.of 0,false,[],[],0,[],⟨0,[]⟩,⟨0,[]⟩,[],0,0,[],⟨[],U.of 0,[]⟩,0,[],0⟩
def svZ:Sv:=⟨none,0,0⟩
def ssZ:Ss:=⟨svZ,svZ,svZ,svZ,svZ,svZ,svZ,svZ,svZ,svZ,svZ,svZ⟩
theorem zero42(w:World):(zeroValue 42).run Tryz.prog w= .ok (.agg (coC coZ ssZ)) w:=by kernel_rfl
theorem zero67(w:World):(zeroValue 67).run Tryz.prog w= .ok (.agg (coC coZ ssZ)) w:=by kernel_rfl
theorem sub_core(c:Co)(s:Ss):Sub (coC c s) 0 (coC c s):=Sub.all _
theorem built67(c:Co)(s:Ss):Tryz.prog.built 67 [(0,.agg (coC c s))]=some (coC c s):=by kernel_rfl
theorem built25:Tryz.prog.built 25 []=some (cfC cfZ svZ svZ):=by kernel_rfl
theorem built42(f:Cf)(prog:List U)(data words:Ca)(m:By)(gu:Gu)(l t p d wo sl rt:Sv):Tryz.prog.built 42 [(0,.agg (cfC f l t)),(1,.slice p.a p.n p.c),(8,.int .i64 1),(10,caV data.ways d),(11,caV words.ways wo),(15,.string (bs m)),(16,.agg (guC ⟨sl,gu.history,rt⟩))]=
 some (coC { conf:=f,prog:=prog,cycle:=0,regs:=List.replicate 32 (U.of 0),fetch:=U.of 0,stop:=false,fetched:=[],rob:=[],next:=1,stores:=[],data:=data,words:=words,bus:=[],asked:=0,guessed:=0,mem:=m,guess:=gu,halt:=0,retired:=[],ph:=0 } { lat:=l,tape:=t,prog:=p,fetched:=svZ,rob:=svZ,stores:=svZ,data:=d,words:=wo,bus:=svZ,slots:=sl,returns:=rt,retired:=svZ }):=by kernel_rfl
section
variable {ops:Array Oper} {rest:List Oper} {o:Oper} {a:Act} {w:World} {Q:Exit→Act→World→Prop} {K:Act→World→Prop} {E:Prop}
theorem st_v{v:Value}(hgd:o.guard=none)(hrun:(execOp a.eval o).run Tryz.prog w= .ok (.value v) w)(h:wpList Tryz.prog ops Q rest (a.put o.dst v) w):wpList Tryz.prog ops Q (o::rest) a w:=by
 refine wpList_plain hgd fun K hK=>?_
 unfold Oper.wp
 rw[hrun]
 exact hK _ _ h
theorem st_built(hgd:o.guard=none){t:TypeId}{ps:Array (Nat×Operand)}(ho:o.op= .build t ps)(parts:List (Nat×Value))(hp:(ps.toList.map fun(i,x)=>(i,a.eval x))=parts)(cells:Array Value)(hb:Tryz.prog.built t parts=some cells)(h:wpList Tryz.prog ops Q rest (a.put o.dst (.agg cells)) w):wpList Tryz.prog ops Q (o::rest) a w:=by
 refine wpList_plain hgd fun K hK=>wp_build t ps ho (by rw[Array.toList_map,hp,hb];rfl) ?_
 rw[Array.toList_map,hp,hb]
 exact hK _ _ h
theorem step_built(hgd:o.guard=none){t:TypeId}{ps:Array (Nat×Operand)}(ho:o.op= .build t ps)(parts:List (Nat×Value))(hp:(ps.toList.map fun(i,x)=>(i,a.eval x))=parts)(cells:Array Value)(hb:Tryz.prog.built t parts=some cells)(h:K (a.put o.dst (.agg cells)) w):if Region.wanted o (yielded ops a.tmps)=true then Oper.wp Tryz.prog o a w K Q else E:=by
 refine toStep hgd (wp_build t ps ho (by rw[Array.toList_map,hp,hb];rfl) ?_)
 rw[Array.toList_map,hp,hb]
 exact h
end
end Go.Proofs.YtdmhfogegfmnfaaGreatDoor
