/- Contracts of conf.Right, Lat, Tape. Conditions: the slices read as lists. Contracts of conf.Clean, Right, Lat, Tape, of a shape read as such. Conditions: the slices read as lists. The walk's laws on a machine and the locals beside it: each hands over a world that is a letter. No conditions. Printed by gen_k14.py. The walk's laws on a machine: a region's beginning, a call, .. -/
import Derived.Test.YtdmhfogegfmnfaaGreatDoorG01
import Derived.Test.YtdmhfogegfmnfaaGreatDoorG04
import Derived.Test.YtdmhfogegfmnfaaGreatDoorG06
import Derived.RegionTactic
import Derived.ChangeAlike
set_option maxRecDepth 100000
set_option maxHeartbeats 4000000
set_option linter.unusedVariables false
set_option linter.unusedSimpArgs false
namespace Go.Proofs.YtdmhfogegfmnfaaGreatDoor.Cnf
open Go.ChangeShapes Go.WideShapes Go.ChangeAt Go.RowKit
def rightB(m wd ro qu st sl se wa:Int)(L:List Int)(n n2:Nat):Bool:=
 L.all (wi 1 8)&&(wi 0 2 m&&wi 1 2 wd&&wi 2 8 ro&&wi 1 4 qu&&wi 1 4 st&&wi 2 6 sl&&wi 1 4 se&&se != 3&&wi 1 2 wa&&decide ((n:Int)≤64)&&decide ((n2:Int)≤64))
theorem all_take(L:List Int)(k:Nat)(h:(L.take k).all (wi 1 8)=true)(hk:k<L.length)(hz:wi 1 8 (L.getD k 0)=true):(L.take (k+1)).all (wi 1 8)=true:=by
 rw[List.take_succ_eq_append_getElem hk,List.all_append,h]
 simp[List.getD_eq_getElem?_getD,hk]at hz
 simp[hz]
theorem all_not(L:List Int)(k:Nat)(hk:k<L.length)(hz:wi 1 8 (L.getD k 0)=false):L.all (wi 1 8)=false:=by
 simp[List.getD_eq_getElem?_getD,hk]at hz
 rw[List.all_eq_false]
 exact⟨L[k],List.getElem_mem hk,by simp[hz]⟩
theorem right_any(m wd ro qu st sl se wa:Int)(A A2:Option Addr)(C C2 n n2:Nat)(tb:Bool)(L:List Int)(w:World)(hn:L.length=n)(bn:n≤9223372036854775807)(b2:n2≤9223372036854775807)(hL:Sl w .i64 A L):
 Calls Tryz.prog 35 #[.agg #[.int .i64 m,.int .i64 wd,.int .i64 ro,.int .i64 qu,.int .i64 st,.int .i64 sl,.int .i64 se,.int .i64 wa,.slice A n C,.bool tb,.slice A2 n2 C2]] w fun e w'=>e= .returned (.bool (rightB m wd ro qu st sl se wa L n n2))∧Below w.heap.size w w':=by
 have HL:=Lib.hid hL
 have Hn:=Lib.hid hn
 clear hL hn
 go_enter Tryz.func35,Tryz.ntmps35
 go_wp2
 go_loop [9] (fun v=>∃ k:Nat,k≤n∧v= .int .i64 k∧Hid ((L.take k).all (wi 1 8)=true)) (fun v=>n-(intOf v).toNat)
 case atStart=>exact⟨0,by omega,rfl,Lib.hid (by simp)⟩
 case round=>
  obtain⟨k,hk,rfl,hall⟩:=hrel
  by_cases hlt:k<n
  ·have hkl:k<L.length:=by rw[Hn.out];exact hlt
   obtain⟨b,off,rfl,hblt,hc⟩:=HL.out (by omega)
   have hcell:=hc k hkl
   have ha:=Lib.hid (fun h=>all_take L k hall.out hkl h)
   have hb:=Lib.hid (fun h=>all_not L k hkl h)
   obtain⟨z,ez⟩:∃ z,L.getD k 0=z:=⟨_,rfl⟩
   rw[ez]at hcell ha hb
   clear ez hc hkl
   cases hw:wi 1 8 z with
   | true=>
    go_wp2_with (go_at_call 76;refine(within_any _ _ _ _).mono ?_;rintro e w' ⟨rfl,rfl⟩)
    go_round
    case rel=>exact⟨k+1,by omega,rfl,Lib.hid (ha.out hw)⟩
    case measure=>simp[intOf];omega
   | false=>
    go_wp2_with (go_at_call 76;refine(within_any _ _ _ _).mono ?_;rintro e w' ⟨rfl,rfl⟩)
    go_ret
    exact⟨ret_bl (by unfold rightB;rw[hb.out hw];rfl),by go_grown⟩
  ·have hkn:L.take k=L:=List.take_of_length_le (by rw[Hn.out];omega)
   rw[hkn]at hall
   clear hkn
   cases hs:(se != 3)with
   | true=>
    go_wp2_with (go_at_call 76;refine(within_any _ _ _ _).mono ?_;rintro e w' ⟨rfl,rfl⟩)
    all_goals go_ret
    all_goals exact⟨ret_bl (by have hq:=hall.out;unfold rightB;simp[*]<;>omega),by go_grown⟩
   | false=>
    go_wp2_with (go_at_call 76;refine(within_any _ _ _ _).mono ?_;rintro e w' ⟨rfl,rfl⟩)
    all_goals go_ret
    all_goals exact⟨ret_bl (by have hq:=hall.out;unfold rightB;simp[*]<;>omega),by go_grown⟩
theorem pl_neg{k:Int}(n:Int)(h:k<0):pl k n=0:=by unfold pl;rw[if_pos h]
theorem pl_pos{k:Int}(n:Int)(h:0≤k):pl k n=k % n:=by unfold pl;rw[if_neg (by omega)]
theorem pl_bd(k n:Int)(h:1≤n):0≤pl k n∧pl k n<n:=by
 unfold pl;split
 ·omega
 ·have:=Int.emod_nonneg k (b:=n) (by omega);have:=Int.emod_lt_of_pos k (b:=n) (by omega);omega
theorem fld8(a0 a1 a2 a3 a4 a5 a6 a7:Int)(A A2:Option Addr)(n C n2 C2:Nat)(tb:Bool)(w:World):(Instr.field 25 (.agg #[.int .i64 a0,.int .i64 a1,.int .i64 a2,.int .i64 a3,.int .i64 a4,.int .i64 a5,.int .i64 a6,.int .i64 a7,.slice A n C,.bool tb,.slice A2 n2 C2]) 8).run Tryz.prog w= .ok (.slice A n C) w:=by kernel_rfl
theorem fld10(a0 a1 a2 a3 a4 a5 a6 a7:Int)(A A2:Option Addr)(n C n2 C2:Nat)(tb:Bool)(w:World):(Instr.field 25 (.agg #[.int .i64 a0,.int .i64 a1,.int .i64 a2,.int .i64 a3,.int .i64 a4,.int .i64 a5,.int .i64 a6,.int .i64 a7,.slice A n C,.bool tb,.slice A2 n2 C2]) 10).run Tryz.prog w= .ok (.slice A2 n2 C2) w:=by kernel_rfl
def la(L:List Int):List Int:=(L.take 64).map (cl 1 8)
def ta(T:List Int):List Int:=T.take 64
theorem la_len(L:List Int):(la L).length=Nat.min L.length 64:=by simp[la,Nat.min_comm]
theorem ta_len(T:List Int):(ta T).length=Nat.min T.length 64:=by simp[ta,Nat.min_comm]
def CP(m wd ro qu st sl se wa:Int)(tb:Bool)(L T:List Int)(w:World)(e:Ending)(w':World):Prop:=
 ∃(g g2 N N2:Nat),e= .returned (.agg #[.int .i64 (cl 0 2 m),.int .i64 (cl 1 2 wd),.int .i64 (cl 2 8 ro),.int .i64 (cl 1 4 qu),.int .i64 (cl 1 4 st),.int .i64 (cl 2 6 sl),.int .i64 (cs se),.int .i64 (cl 1 2 wa),.slice (some ⟨g,0,none⟩) N N,.bool tb,.slice (some ⟨g2,0,none⟩) N2 N2])∧
  (la L).length=N∧(ta T).length=N2∧N≤64∧N2≤64∧Sl w' .i64 (some ⟨g,0,none⟩) (la L)∧Sl w' .u32 (some ⟨g2,0,none⟩) (ta T)∧Below w.heap.size w w'∧w.heap.size≤g∧w.heap.size≤g2
theorem clean_all(m wd ro qu st sl se wa:Int)(A A2:Option Addr)(C C2:Nat)(L T:List Int)(tb:Bool)(n n2:Nat)(w:World)(hn:L.length=n)(h2:T.length=n2)(bn:n≤9223372036854775807)(b2:n2≤9223372036854775807)(hL:Sl w .i64 A L)(hT:Sl w .u32 A2 T):
 Calls Tryz.prog 14 #[.agg #[.int .i64 m,.int .i64 wd,.int .i64 ro,.int .i64 qu,.int .i64 st,.int .i64 sl,.int .i64 se,.int .i64 wa,.slice A n C,.bool tb,.slice A2 n2 C2]] w (CP m wd ro qu st sl se wa tb L T w):=
 (clean_any m wd ro qu st sl se wa A A2 C C2 L T tb n n2 w hn h2 bn b2 hL hT).mono fun e w' ⟨g,g2,he,s1,s2,hb,hg,hg2⟩=>by
  have e1:Nat.min L.length 64=min L.length 64:=rfl
  have e2:Nat.min T.length 64=min T.length 64:=rfl
  exact⟨g,g2,_,_,he,la_len L,ta_len T,by omega,by omega,s1,s2,hb,hg,hg2⟩
def lav(L:List Int)(k:Int):Int:=if(la L).length=0 then 1 else(la L).getD (pl k (la L).length).toNat 0
def tav(T:List Int)(k pc:Int):Int:=if(ta T).length=0 then(pc+4) % 4294967296 else(ta T).getD (pl k (ta T).length).toNat 0
theorem sl_at{w:World}{k:IntKind}{g:Nat}{L:List Int}(h:Sl w k (some ⟨g,0,none⟩) L)(j:Nat)(hj:j<L.length):w.cell? ⟨g,j,none⟩=some (.int k (L.getD j 0)):=by
 obtain⟨b,off,he,_,hc⟩:=h (by omega)
 simp at he
 obtain⟨rfl,rfl⟩:=he
 simpa using hc j hj
theorem lat_any(k:Int)(m wd ro qu st sl se wa:Int)(A A2:Option Addr)(C C2:Nat)(L T:List Int)(tb:Bool)(n n2:Nat)(w:World)(hn:L.length=n)(h2:T.length=n2)(bn:n≤9223372036854775807)(b2:n2≤9223372036854775807)(hL:Sl w .i64 A L)(hT:Sl w .u32 A2 T):
 Calls Tryz.prog 86 #[.agg #[.int .i64 m,.int .i64 wd,.int .i64 ro,.int .i64 qu,.int .i64 st,.int .i64 sl,.int .i64 se,.int .i64 wa,.slice A n C,.bool tb,.slice A2 n2 C2],.int .i64 k] w fun e w'=>e= .returned (.int .i64 (lav L k))∧Below w.heap.size w w':=by
 have HL:=Lib.hid hL
 have HT:=Lib.hid hT
 have Hn:=Lib.hid hn
 have H2:=Lib.hid h2
 clear hL hT hn h2
 go_enter Tryz.func86,Tryz.ntmps86
 go_wp2_with fail
 refine(clean_all m wd ro qu st sl se wa A A2 C C2 L T tb n n2 _ Hn.out H2.out bn b2 (HL.out.alloc _) (HT.out.alloc _)).mono ?_
 rintro e w1 ⟨g,g2,N,N2,rfl,l1,l2,m1,m2,s1,s2,hb,hg,hg2⟩
 have hb':=Lib.hid (((Below.refl w.heap.size w).alloc (Nat.le_refl _) _).trans (hb.mono (by simp)))
 clear hb HL HT
 have f8:=@fld8
 have f10:=@fld10
 clear s2 l2
 by_cases hz:N=0
 ·subst hz
  have hv:=Lib.hid (show lav L k=1 by unfold lav;rw[if_pos l1])
  clear l1 s1
  go_wp2
  go_ret
  exact⟨ret_i64 hv.out.symm,hb'.out⟩
 ·have hz':(N== 0)=false:=by rw[beq_eq_false_iff_ne];exact hz
  have hz2:((N:Int)== 0)=false:=by rw[beq_eq_false_iff_ne];omega
  have hp:=pl_bd k N (by omega)
  have hcell:=sl_at s1 (pl k N).toNat (by omega)
  have hv:lav L k=(la L).getD (pl k N).toNat 0:=by unfold lav;rw[if_neg (by omega),l1]
  rw[← hv]at hcell
  clear hv l1 s1
  rcases Int.lt_or_le k 0 with c|c
  ·have e:pl k N=0:=pl_neg _ c
   rw[e]at hcell
   have hcell:w1.cell? ⟨g,0,none⟩=some (.int .i64 (lav L k)):=hcell
   clear hp e
   go_wp2
   go_ret
   exact⟨rfl,hb'.out⟩
  ·have e:pl k N=k % N:=pl_pos _ c
   rw[e]at hcell hp
   clear e
   go_wp2
   go_ret
   exact⟨rfl,hb'.out⟩
theorem tape_any(k pc:Int)(m wd ro qu st sl se wa:Int)(A A2:Option Addr)(C C2:Nat)(L T:List Int)(tb:Bool)(n n2:Nat)(w:World)(hn:L.length=n)(h2:T.length=n2)(bn:n≤9223372036854775807)(b2:n2≤9223372036854775807)(hL:Sl w .i64 A L)(hT:Sl w .u32 A2 T)(p0:0≤pc)(p1:pc≤4294967295):
 Calls Tryz.prog 103 #[.agg #[.int .i64 m,.int .i64 wd,.int .i64 ro,.int .i64 qu,.int .i64 st,.int .i64 sl,.int .i64 se,.int .i64 wa,.slice A n C,.bool tb,.slice A2 n2 C2],.int .i64 k,.int .u32 pc] w fun e w'=>e= .returned (.int .u32 (tav T k pc))∧Below w.heap.size w w':=by
 have HL:=Lib.hid hL
 have HT:=Lib.hid hT
 have Hn:=Lib.hid hn
 have H2:=Lib.hid h2
 clear hL hT hn h2
 go_enter Tryz.func103,Tryz.ntmps103
 go_wp2_with fail
 refine(clean_all m wd ro qu st sl se wa A A2 C C2 L T tb n n2 _ Hn.out H2.out bn b2 (HL.out.alloc _) (HT.out.alloc _)).mono ?_
 rintro e w1 ⟨g,g2,N,N2,rfl,l1,l2,m1,m2,s1,s2,hb,hg,hg2⟩
 have hb':=Lib.hid (((Below.refl w.heap.size w).alloc (Nat.le_refl _) _).trans (hb.mono (by simp)))
 clear hb HL HT
 have f8:=@fld8
 have f10:=@fld10
 clear s1 l1
 by_cases hz:N2=0
 ·subst hz
  have hv:=Lib.hid (show tav T k pc=(pc+4) % 4294967296 by unfold tav;rw[if_pos l2])
  clear l2 s2
  go_wp2
  go_ret
  exact⟨ret_u32 hv.out.symm,hb'.out⟩
 ·have hz':(N2== 0)=false:=by rw[beq_eq_false_iff_ne];exact hz
  have hz2:((N2:Int)== 0)=false:=by rw[beq_eq_false_iff_ne];omega
  have hp:=pl_bd k N2 (by omega)
  have hcell:=sl_at s2 (pl k N2).toNat (by omega)
  have hv:tav T k pc=(ta T).getD (pl k N2).toNat 0:=by unfold tav;rw[if_neg (by omega),l2]
  rw[← hv]at hcell
  clear hv l2 s2
  rcases Int.lt_or_le k 0 with c|c
  ·have e:pl k N2=0:=pl_neg _ c
   rw[e]at hcell
   have hcell:w1.cell? ⟨g2,0,none⟩=some (.int .u32 (tav T k pc)):=hcell
   clear hp e
   go_wp2
   go_ret
   exact⟨rfl,hb'.out⟩
  ·have e:pl k N2=k % N2:=pl_pos _ c
   rw[e]at hcell hp
   clear e
   go_wp2
   go_ret
   exact⟨rfl,hb'.out⟩
end Go.Proofs.YtdmhfogegfmnfaaGreatDoor.Cnf
namespace Go.Proofs.YtdmhfogegfmnfaaGreatDoor
open Go.RowKit
def cfC(c:Cf)(l t:Sv):Array Value:=#[.int .i64 c.mode,.int .i64 c.width,.int .i64 c.rob,.int .i64 c.queue,.int .i64 c.stores,.int .i64 c.slots,.int .i64 c.sets,.int .i64 c.ways,.slice l.a l.n l.c,.bool c.tables,.slice t.a t.n t.c]
theorem row25:IsRow 25 11:=⟨_,Tryz.underlying25,rfl,by kernel_rfl⟩
theorem toCnfI{w:World}{A:Option Addr}{n:Nat}{L:List Int}(h:Sl i64C 1 w A n L):Cnf.Sl w .i64 A L:=fun hn=>by
 obtain⟨g,off,e,hg,hc⟩:=h.2.2 (by rw[← h.1];exact hn)
 refine⟨g,off,e,hg,fun j hj=>?_⟩
 have:=hc j (L.getD j 0) 0 _ (by rw[List.getD_eq_getElem?_getD,List.getElem?_eq_getElem hj];rfl) rfl
 simpa [i64C] using this
theorem toCnfU{w:World}{A:Option Addr}{n:Nat}{L:List U}(h:Sl u32C 1 w A n L):Cnf.Sl w .u32 A (L.map (·.v)):=fun hn=>by
 rw[List.length_map]at hn
 obtain⟨g,off,e,hg,hc⟩:=h.2.2 (by rw[← h.1];exact hn)
 refine⟨g,off,e,hg,fun j hj=>?_⟩
 rw[List.length_map]at hj
 have:=hc j L[j] 0 _ (List.getElem?_eq_getElem hj) rfl
 simpa [u32C,List.getD_eq_getElem?_getD,List.getElem?_eq_getElem hj] using this
theorem ofCnfI{w:World}{A:Option Addr}{L:List Int}(h:Cnf.Sl w .i64 A L)(hn:L.length≤1000000):Sl i64C 1 w A L.length L:=⟨rfl,hn,fun h0=>by
 obtain⟨g,off,e,hg,hc⟩:=h h0
 refine⟨g,off,e,hg,fun i x j v hx hv=>?_⟩
 have hi:=(List.getElem?_eq_some_iff.1 hx).1
 have:=hc i hi
 rw[List.getD_eq_getElem?_getD,hx]at this
 match j with
 | 0=>simp only[i64C]at hv;simp at hv;subst hv;simpa using this
 | j+1=>have:=(Array.getElem?_eq_some_iff.1 hv).1;simp[i64C]at this⟩
theorem ofCnfU{w:World}{A:Option Addr}{L:List U}(h:Cnf.Sl w .u32 A (L.map (·.v)))(hn:L.length≤1000000):Sl u32C 1 w A L.length L:=⟨rfl,hn,fun h0=>by
 obtain⟨g,off,e,hg,hc⟩:=h (by rw[List.length_map];exact h0)
 refine⟨g,off,e,hg,fun i x j v hx hv=>?_⟩
 have hi:=(List.getElem?_eq_some_iff.1 hx).1
 have:=hc i (by rw[List.length_map];exact hi)
 rw[List.getD_eq_getElem?_getD,List.getElem?_map,hx]at this
 match j with
 | 0=>simp only[u32C]at hv;simp at hv;subst hv;simpa using this
 | j+1=>have:=(Array.getElem?_eq_some_iff.1 hv).1;simp[u32C]at this⟩
theorem lat_co(f:Cf)(l t:Sv)(k:Int)(w:World)(h1:Sl i64C 1 w l.a l.n f.lat)(h2:Sl u32C 1 w t.a t.n f.tape):Calls Tryz.prog 86 #[.agg (cfC f l t),.int .i64 k] w fun e w'=>e= .returned (.int .i64 (latF f k))∧Below w.heap.size w w':=
 Cnf.lat_any k f.mode f.width f.rob f.queue f.stores f.slots f.sets f.ways l.a t.a l.c t.c f.lat (f.tape.map (·.v)) f.tables l.n t.n w h1.len (by rw[List.length_map];exact h2.len) (by have:=h1.few;omega) (by have:=h2.few;omega) (toCnfI h1) (toCnfU h2)
theorem tape_co(f:Cf)(l t:Sv)(k:Int)(pc:U)(w:World)(h1:Sl i64C 1 w l.a l.n f.lat)(h2:Sl u32C 1 w t.a t.n f.tape):Calls Tryz.prog 103 #[.agg (cfC f l t),.int .i64 k,.int .u32 pc.v] w fun e w'=>(∃ x:U,e= .returned (.int .u32 x.v))∧Below w.heap.size w w':=
 (Cnf.tape_any k pc.v f.mode f.width f.rob f.queue f.stores f.slots f.sets f.ways l.a t.a l.c t.c f.lat (f.tape.map (·.v)) f.tables l.n t.n w h1.len (by rw[List.length_map];exact h2.len) (by have:=h1.few;omega) (by have:=h2.few;omega) (toCnfI h1) (toCnfU h2) pc.lo pc.hi).mono fun e w' ⟨h3,h4⟩=>by
  refine⟨?_,h4⟩
  subst h3
  unfold Cnf.tav Cnf.ta
  by_cases c:((f.tape.map (·.v)).take 64).length=0
  ·rw[if_pos c];exact⟨U.of (pc.v+4),rfl⟩
  ·rw[if_neg c]
   rw[← List.map_take]
   obtain⟨i,hi⟩:∃ i,i=(pl k ((List.map (fun x=>x.v) (f.tape.take 64)).length:Int)).toNat:=⟨_,rfl⟩
   refine⟨(f.tape.take 64).getD i (U.of 0),?_⟩
   rw[← hi]
   congr 2
   rw[List.getD_eq_getElem?_getD,List.getD_eq_getElem?_getD,List.getElem?_map]
   cases (f.tape.take 64)[i]?<;>rfl
theorem cfright_co(f:Cf)(l t:Sv)(w:World)(h1:Sl i64C 1 w l.a l.n f.lat)(h2:Sl u32C 1 w t.a t.n f.tape):Calls Tryz.prog 35 #[.agg (cfC f l t)] w fun e w'=>e= .returned (.bool (rightF f))∧Below w.heap.size w w':=by
 have:=Cnf.right_any f.mode f.width f.rob f.queue f.stores f.slots f.sets f.ways l.a t.a l.c t.c l.n t.n f.tables f.lat w h1.len (by have:=h1.few;omega) (by have:=h2.few;omega) (toCnfI h1)
 refine this.mono fun e w' ⟨h3,h4⟩=>⟨h3.trans ?_,h4⟩
 unfold rightF Cnf.rightB
 rw[h1.len,h2.len]
def CleP(f:Cf)(w:World)(e:Ending)(w':World):Prop:=∃ l t:Sv,e= .returned (.agg (cfC (cleanF f) l t))∧Sl i64C 1 w' l.a l.n (cleanF f).lat∧Wf l.a l.n l.c∧Sl u32C 1 w' t.a t.n (cleanF f).tape∧Wf t.a t.n t.c∧Below w.heap.size w w'∧(∀ p,l.a=some p→w.heap.size≤p.block)∧(∀ p,t.a=some p→w.heap.size≤p.block)
abbrev Lc:=Nat×Array Value×TypeId
structure St'(w0 ws w:World)(g:Nat)(κs κ:Nat→Nat)(c:Co)(s:Ss)(l:List Lc):Prop where
 m:MS w0 w g κ c s
 kp:Kp κs ws w
 sm:Same κs κ ws
 lc:∀ x∈l,w.heap[x.1]?=some (.cells x.2.1 x.2.2 (0,0))∧κ x.1=6∧ws.heap.size≤x.1
 nd:l.Pairwise fun x y=>x.1≠y.1
structure Md(w0 ws w:World)(g:Nat)(κs κ:Nat→Nat)(c:Co)(s:Ss)(c':Co)(s':Ss)(l:List Lc):Prop where
 r:MR w0 w g κ c' s'
 box:w.heap[g]?=some (.cells (coC c s) 67 (0,0))
 kp:Kp κs ws w
 sm:Same κs κ ws
 lc:∀ x∈l,w.heap[x.1]?=some (.cells x.2.1 x.2.2 (0,0))∧κ x.1=6∧ws.heap.size≤x.1
 nd:l.Pairwise fun x y=>x.1≠y.1
def MP(w0 w:World)(g:Nat)(κ:Nat→Nat)(c':Co)(w':World):Prop:=∃ κ' s',MS w0 w' g κ' c' s'∧Kp κ w w'∧Same κ κ' w
section
variable {w0 ws w w':World} {g:Nat} {κs κ κ':Nat→Nat} {c c':Co} {s s':Ss} {l:List Lc}
theorem St'.start(h:MS w0 w g κ c s):St' w0 w w g κ κ c s []:=⟨h,Kp.refl _ _,Same.refl _ _,(fun x hx=>by cases hx),List.Pairwise.nil⟩
theorem St'.mp(h:St' w0 ws w g κs κ c s l):MP w0 ws g κs c w:=⟨κ,s,h.m,h.kp,h.sm⟩
theorem St'.call(h:St' w0 ws w g κs κ c s l)(hm:MS w0 w' g κ' c' s')(hk:Kp κ w w')(hs:Same κ κ' w):St' w0 ws w' g κs κ' c' s' l:=
 ⟨hm,h.kp.same h.sm hk,h.sm.trans hs h.kp.size,fun x hx=>by
  obtain⟨h1,h2,h3⟩:=h.lc x hx
  have hlt:=(Array.getElem?_eq_some_iff.1 h1).1
  exact⟨(hk.heap x.1 hlt (by omega)).trans h1,(hs x.1 hlt).trans h2,h3⟩,h.nd⟩
theorem St'.below(h:St' w0 ws w g κs κ c s l)(hb:Below w.heap.size w w'):St' w0 ws w' g κs κ c s l:=h.call (h.m.below hb) (Kp.of hb) (Same.refl _ _)
theorem St'.drew(h:St' w0 ws w g κs κ c s l):St' w0 ws w.drew g κs κ c s l:=h.below (Below.refl _ _).drew
theorem St'.drop{x:Lc}(h:St' w0 ws w g κs κ c s (x::l)):St' w0 ws w g κs κ c s l:=⟨h.m,h.kp,h.sm,fun y hy=>h.lc y (List.mem_cons_of_mem _ hy),(List.pairwise_cons.1 h.nd).2⟩
theorem St'.md(h:St' w0 ws w g κs κ c s l)(r:MR w0 w g κ c' s'):Md w0 ws w g κs κ c s c' s' l:=⟨r,h.m.box,h.kp,h.sm,h.lc,h.nd⟩
theorem St'.color(h:St' w0 ws w g κs κ c s l)(hb:Below w.heap.size w w')(b y:Nat)(h1:w.heap.size≤b)(h2:b<w'.heap.size)(hy:y≠1):St' w0 ws w' g κs (upd κ b y) c s l:=
 h.call (h.m.color hb b y h1 h2 hy) (Kp.of hb) (Same.upd κ w h1)
theorem St'.zero(h:St' w0 ws w g κs κ c s l):∀ j,w.heap.size≤j→κ j=0:=h.m.r.zero
theorem St'.cell(h:St' w0 ws w g κs κ c s l)(j:Nat):w.cell? ⟨g,j,none⟩=(coC c s)[j]?:=h.m.cells j
theorem St'.lcell(h:St' w0 ws w g κs κ c s l){b:Nat}{cs:Array Value}{T:TypeId}(hx:(b,cs,T)∈l)(j:Nat):w.cell? ⟨b,j,none⟩=cs[j]?:=cell_of_row w b j cs T _ (h.lc _ hx).1
theorem Md.off(h:Md w0 ws w g κs κ c s c' s' l)(ho:Off g w w')(hb:w'.heap[g]?=some (.cells (coC c' s') 67 (0,0))):St' w0 ws w' g κs κ c' s' l:=by
 have hk:Kp κ w w':=Kp.off ho h.r.gcol
 refine⟨⟨h.r.off ho,hb⟩,h.kp.same h.sm hk,h.sm,fun x hx=>?_,h.nd⟩
 obtain⟨h1,h2,h3⟩:=h.lc x hx
 have hlt:=(Array.getElem?_eq_some_iff.1 h1).1
 exact⟨(hk.heap x.1 hlt (by omega)).trans h1,h2,h3⟩
end
theorem putA_all(old new:Array Value)(h:old.size=new.size):putA old 0 new=new:=by
 unfold putA
 have:old.toList.drop new.size=[]:=List.drop_eq_nil_of_le (by simp[h])
 simp[this]
def OneT(T:TypeId):Prop:=∃ d,Tryz.prog.underlying T=some d∧(match d with | .struct _ | .array _ _=>true|_=>false)=false
theorem load_one{T:TypeId}(hT:OneT T)(w:World)(a:Addr)(v:Value)(h:w.cell? a=some v):(loadVar T a).run Tryz.prog w= .ok v w:=by
 obtain⟨d,hu,hd⟩:=hT
 have hagg:(isAgg T).run Tryz.prog w= .ok false w:=by
  unfold isAgg
  rw[Sem.run_bind,run_underlying hu w]
  cases d<;>simp_all
 simp[loadVar,Sem.run_bind,hagg,h]
theorem one3:OneT 3:=⟨_,Tryz.underlying3,rfl⟩
theorem one4:OneT 4:=⟨_,Tryz.underlying4,rfl⟩
theorem one9:OneT 9:=⟨_,Tryz.underlying9,rfl⟩
theorem one28:OneT 28:=⟨_,Tryz.underlying28,rfl⟩
theorem one30:OneT 30:=⟨_,Tryz.underlying30,rfl⟩
theorem one31:OneT 31:=⟨_,Tryz.underlying31,rfl⟩
theorem one32:OneT 32:=⟨_,Tryz.underlying32,rfl⟩
theorem one36:OneT 36:=⟨_,Tryz.underlying36,rfl⟩
theorem one40:OneT 40:=⟨_,Tryz.underlying40,rfl⟩
theorem one23:OneT 23:=⟨_,Tryz.underlying23,rfl⟩
theorem one22:OneT 22:=⟨_,Tryz.underlying22,rfl⟩
theorem yields_one{ops:Array Oper}{C:World→Prop}{oi:Oper}{a:Act}{T:TypeId}(hT:OneT T)(hgd:oi.guard=none)(x:Operand)(ho:oi.op= .load T x)(ad:Addr)(hx:a.eval x= .pointer (some ad))(v:Value)(hc:∀ w,C w→w.cell? ad=some v):YieldsIf Tryz.prog ops C oi v a:=by
 refine .inl ⟨by simp[Region.wanted,hgd],fun w hw=>?_⟩
 unfold execOp
 simp only[ho,hx,Instr.loadAt,Instr.sureAddr,Sem.run_bind,Sem.run_pure,Result.andThen_ok,load_one hT w ad v (hc w hw)]
def Sub(old:Array Value)(k:Nat)(cs:Array Value):Prop:=∀ j v,cs[j]?=some v→old[k+j]?=some v
theorem Sub.all(cs:Array Value):Sub cs 0 cs:=fun j v h=>by rw[Nat.zero_add];exact h
theorem Sub.of{old:Array Value}{k:Nat}{cs:Array Value}(h:(old.toList.drop k).take cs.size=cs.toList):Sub old k cs:=fun j v hv=>by
 have hj:=(Array.getElem?_eq_some_iff.1 hv).1
 have h1:cs.toList[j]?=some v:=by simpa using hv
 rw[← h,List.getElem?_take_of_lt hj,List.getElem?_drop]at h1
 simpa using h1
section
variable (c:Co) (s:Ss)
theorem sub_conf:Sub (coC c s) 0 (cfC c.conf s.lat s.tape):=Sub.of rfl
theorem sub_data:Sub (coC c s) 51 #[.int .i64 c.data.ways,.slice s.data.a s.data.n s.data.c]:=Sub.of rfl
theorem sub_words:Sub (coC c s) 53 #[.int .i64 c.words.ways,.slice s.words.a s.words.n s.words.c]:=Sub.of rfl
theorem sub_guess:Sub (coC c s) 59 #[.slice s.slots.a s.slots.n s.slots.c,.int .u32 c.guess.history.v,.slice s.returns.a s.returns.n s.returns.c]:=Sub.of rfl
theorem sub_regs:Sub (coC c s) 13 (rgC c.regs):=Sub.of rfl
theorem sub_inst(e:En):Sub (enC e) 2 (inC e.i):=Sub.of rfl
end
theorem row39:IsRow 39 3:=⟨_,Tryz.underlying39,rfl,by kernel_rfl⟩
section
variable {w0 ws w:World} {g:Nat} {κs κ:Nat→Nat} {c c':Co} {s s':Ss} {l l':List Lc} {ops:Array Oper} {rest:List Oper} {o:Oper} {a:Act} {Q:Exit→Act→World→Prop} {K:Act→World→Prop} {E:Prop} {T n:Nat}
theorem toStep(hgd:o.guard=none)(h:Oper.wp Tryz.prog o a w K Q):if Region.wanted o (yielded ops a.tmps)=true then Oper.wp Tryz.prog o a w K Q else E:=by
 have hw:Region.wanted o (yielded ops a.tmps)=true:=by simp[Region.wanted,hgd]
 rw[if_pos hw];exact h
theorem wp_ld1(hT:OneT T)(H:St' w0 ws w g κs κ c s l)(x:Operand)(ho:o.op= .load T x)(k:Nat)(hx:a.eval x= .pointer (some ⟨g,k,none⟩))(v:Value)(hv:(coC c s)[k]?=some v)(h:K (a.put o.dst v) w):Oper.wp Tryz.prog o a w K Q:=by
 have hrun:=load_one hT w ⟨g,k,none⟩ v ((H.cell k).trans hv)
 unfold Oper.wp execOp
 simp only[ho,hx,Instr.loadAt,Instr.sureAddr,Sem.run_bind,Sem.run_pure,Result.andThen_ok,hrun]
 exact h
theorem st_ld1(hgd:o.guard=none)(hT:OneT T)(H:St' w0 ws w g κs κ c s l)(x:Operand)(ho:o.op= .load T x)(k:Nat)(hx:a.eval x= .pointer (some ⟨g,k,none⟩))(v:Value)(hv:(coC c s)[k]?=some v)(h:wpList Tryz.prog ops Q rest (a.put o.dst v) w):wpList Tryz.prog ops Q (o::rest) a w:=
 wpList_plain hgd fun K hK=>wp_ld1 hT H x ho k hx v hv (hK _ _ (h))
theorem wp_ldr(hT:IsRow T n)(H:St' w0 ws w g κs κ c s l)(x:Operand)(ho:o.op= .load T x)(k:Nat)(hx:a.eval x= .pointer (some ⟨g,k,none⟩))(cs:Array Value)(hs:cs.size=n)(hv:Sub (coC c s) k cs)(h:K (a.put o.dst (.agg cs)) w):Oper.wp Tryz.prog o a w K Q:=by
 have hrun:=load_at (w:=w) hT g k cs hs (fun j v hj=>(H.cell (k+j)).trans (hv j v hj))
 unfold Oper.wp execOp
 simp only[ho,hx,Instr.loadAt,Instr.sureAddr,Sem.run_bind,Sem.run_pure,Result.andThen_ok,hrun]
 exact h
theorem st_ldr(hgd:o.guard=none)(hT:IsRow T n)(H:St' w0 ws w g κs κ c s l)(x:Operand)(ho:o.op= .load T x)(k:Nat)(hx:a.eval x= .pointer (some ⟨g,k,none⟩))(cs:Array Value)(hs:cs.size=n)(hv:Sub (coC c s) k cs)(h:wpList Tryz.prog ops Q rest (a.put o.dst (.agg cs)) w):wpList Tryz.prog ops Q (o::rest) a w:=
 wpList_plain hgd fun K hK=>wp_ldr hT H x ho k hx cs hs hv (hK _ _ (h))
theorem wp_ll1(hT:OneT T)(H:St' w0 ws w g κs κ c s l)(x:Operand)(ho:o.op= .load T x)(b k:Nat)(hx:a.eval x= .pointer (some ⟨b,k,none⟩))(cs:Array Value)(t:TypeId)(hm:(b,cs,t)∈l)(v:Value)(hv:cs[k]?=some v)(h:K (a.put o.dst v) w):Oper.wp Tryz.prog o a w K Q:=by
 have hrun:=load_one hT w ⟨b,k,none⟩ v ((H.lcell hm k).trans hv)
 unfold Oper.wp execOp
 simp only[ho,hx,Instr.loadAt,Instr.sureAddr,Sem.run_bind,Sem.run_pure,Result.andThen_ok,hrun]
 exact h
theorem st_ll1(hgd:o.guard=none)(hT:OneT T)(H:St' w0 ws w g κs κ c s l)(x:Operand)(ho:o.op= .load T x)(b k:Nat)(hx:a.eval x= .pointer (some ⟨b,k,none⟩))(cs:Array Value)(t:TypeId)(hm:(b,cs,t)∈l)(v:Value)(hv:cs[k]?=some v)(h:wpList Tryz.prog ops Q rest (a.put o.dst v) w):wpList Tryz.prog ops Q (o::rest) a w:=
 wpList_plain hgd fun K hK=>wp_ll1 hT H x ho b k hx cs t hm v hv (hK _ _ (h))
theorem wp_llr(hT:IsRow T n)(H:St' w0 ws w g κs κ c s l)(x:Operand)(ho:o.op= .load T x)(b k:Nat)(hx:a.eval x= .pointer (some ⟨b,k,none⟩))(rs:Array Value)(t:TypeId)(hm:(b,rs,t)∈l)(cs:Array Value)(hs:cs.size=n)(hv:Sub rs k cs)(h:K (a.put o.dst (.agg cs)) w):Oper.wp Tryz.prog o a w K Q:=by
 have hrun:=load_at (w:=w) hT b k cs hs (fun j v hj=>(H.lcell hm (k+j)).trans (hv j v hj))
 unfold Oper.wp execOp
 simp only[ho,hx,Instr.loadAt,Instr.sureAddr,Sem.run_bind,Sem.run_pure,Result.andThen_ok,hrun]
 exact h
theorem st_llr(hgd:o.guard=none)(hT:IsRow T n)(H:St' w0 ws w g κs κ c s l)(x:Operand)(ho:o.op= .load T x)(b k:Nat)(hx:a.eval x= .pointer (some ⟨b,k,none⟩))(rs:Array Value)(t:TypeId)(hm:(b,rs,t)∈l)(cs:Array Value)(hs:cs.size=n)(hv:Sub rs k cs)(h:wpList Tryz.prog ops Q rest (a.put o.dst (.agg cs)) w):wpList Tryz.prog ops Q (o::rest) a w:=
 wpList_plain hgd fun K hK=>wp_llr hT H x ho b k hx rs t hm cs hs hv (hK _ _ (h))
theorem wp_lrow(hT:IsRow T n)(x:Operand)(ho:o.op= .load T x)(b k:Nat)(hx:a.eval x= .pointer (some ⟨b,k,none⟩))(cs:Array Value)(hs:cs.size=n)(hv:∀ j v,cs[j]?=some v→w.cell? ⟨b,k+j,none⟩=some v)(h:K (a.put o.dst (.agg cs)) w):Oper.wp Tryz.prog o a w K Q:=by
 have hrun:=load_at (w:=w) hT b k cs hs hv
 unfold Oper.wp execOp
 simp only[ho,hx,Instr.loadAt,Instr.sureAddr,Sem.run_bind,Sem.run_pure,Result.andThen_ok,hrun]
 exact h
theorem st_lrow(hgd:o.guard=none)(hT:IsRow T n)(x:Operand)(ho:o.op= .load T x)(b k:Nat)(hx:a.eval x= .pointer (some ⟨b,k,none⟩))(cs:Array Value)(hs:cs.size=n)(hv:∀ j v,cs[j]?=some v→w.cell? ⟨b,k+j,none⟩=some v)(h:wpList Tryz.prog ops Q rest (a.put o.dst (.agg cs)) w):wpList Tryz.prog ops Q (o::rest) a w:=
 wpList_plain hgd fun K hK=>wp_lrow hT x ho b k hx cs hs hv (hK _ _ (h))
theorem wp_lone(hT:OneT T)(x:Operand)(ho:o.op= .load T x)(ad:Addr)(hx:a.eval x= .pointer (some ad))(v:Value)(hv:w.cell? ad=some v)(h:K (a.put o.dst v) w):Oper.wp Tryz.prog o a w K Q:=by
 have hrun:=load_one hT w ad v hv
 unfold Oper.wp execOp
 simp only[ho,hx,Instr.loadAt,Instr.sureAddr,Sem.run_bind,Sem.run_pure,Result.andThen_ok,hrun]
 exact h
theorem st_lone(hgd:o.guard=none)(hT:OneT T)(x:Operand)(ho:o.op= .load T x)(ad:Addr)(hx:a.eval x= .pointer (some ad))(v:Value)(hv:w.cell? ad=some v)(h:wpList Tryz.prog ops Q rest (a.put o.dst v) w):wpList Tryz.prog ops Q (o::rest) a w:=
 wpList_plain hgd fun K hK=>wp_lone hT x ho ad hx v hv (hK _ _ (h))
theorem wp_al(z:Array Value)(hz:∀ W:World,(zeroValue T).run Tryz.prog W= .ok (.agg z) W)(H:St' w0 ws w g κs κ c s l)(ho:o.op= .alloc T)(h:∀ w' b κ',St' w0 ws w' g κs κ' c s ((b,z,T)::l)→K (a.put o.dst (.pointer (some ⟨b,0,none⟩))) w'):Oper.wp Tryz.prog o a w K Q:=by
 have hrun:(Instr.alloc T true (.tuple #[])).run Tryz.prog w= .ok (.pointer (some ⟨w.heap.size,0,none⟩)) (w.alloc (.cells z T)):=by
  unfold Instr.alloc newVar newRow
  simp[Sem.run_bind,hz,Value.cells]
 unfold Oper.wp execOp
 simp only[ho,Sem.run_bind,Sem.run_pure,Result.andThen_ok,hrun]
 have hb:=(Below.refl w.heap.size w).alloc (Nat.le_refl _) (.cells z T)
 have H':=H.color hb w.heap.size 6 (Nat.le_refl _) (by simp[World.size_alloc]) (by decide)
 exact h _ _ _ ⟨H'.m,H'.kp,H'.sm,fun y hy=>by
  rcases List.mem_cons.1 hy with e|hy
  ·subst e;exact⟨heap_at _ _ _ rfl,upd_at _ _ _,H.kp.size⟩
  ·exact H'.lc y hy,List.pairwise_cons.2 ⟨fun y hy e=>by
   have:=(Array.getElem?_eq_some_iff.1 (H.lc y hy).1).1
   simp only at e
   omega,H.nd⟩⟩
theorem st_al(hgd:o.guard=none)(z:Array Value)(hz:∀ W:World,(zeroValue T).run Tryz.prog W= .ok (.agg z) W)(H:St' w0 ws w g κs κ c s l)(ho:o.op= .alloc T)(h:∀ w' b κ',St' w0 ws w' g κs κ' c s ((b,z,T)::l)→wpList Tryz.prog ops Q rest (a.put o.dst (.pointer (some ⟨b,0,none⟩))) w'):wpList Tryz.prog ops Q (o::rest) a w:=
 wpList_plain hgd fun K hK=>wp_al z hz H ho fun w' b κ' q0=>hK _ _ (h w' b κ' q0)
theorem wp_box(cs:Array Value)(H:St' w0 ws w g κs κ c s l)(x:Operand)(ho:o.op= .box T x)(hx:a.eval x= .agg cs)(h:∀ w' b κ',St' w0 ws w' g κs κ' c s ((b,cs,T)::l)→K (a.put o.dst (.pointer (some ⟨b,0,none⟩))) w'):Oper.wp Tryz.prog o a w K Q:=by
 have hrun:(Instr.box T (.agg cs)).run Tryz.prog w= .ok (.pointer (some ⟨w.heap.size,0,none⟩)) (w.alloc (.cells cs T)):=by
  unfold Instr.box newVar newRow
  simp[Sem.run_bind,Value.cells]
 unfold Oper.wp execOp
 simp only[ho,hx,Sem.run_bind,Sem.run_pure,Result.andThen_ok,hrun]
 have hb:=(Below.refl w.heap.size w).alloc (Nat.le_refl _) (.cells cs T)
 have H':=H.color hb w.heap.size 6 (Nat.le_refl _) (by simp[World.size_alloc]) (by decide)
 exact h _ _ _ ⟨H'.m,H'.kp,H'.sm,fun y hy=>by
  rcases List.mem_cons.1 hy with e|hy
  ·subst e;exact⟨heap_at _ _ _ rfl,upd_at _ _ _,H.kp.size⟩
  ·exact H'.lc y hy,List.pairwise_cons.2 ⟨fun y hy e=>by
   have:=(Array.getElem?_eq_some_iff.1 (H.lc y hy).1).1
   simp only at e
   omega,H.nd⟩⟩
theorem st_box(hgd:o.guard=none)(cs:Array Value)(H:St' w0 ws w g κs κ c s l)(x:Operand)(ho:o.op= .box T x)(hx:a.eval x= .agg cs)(h:∀ w' b κ',St' w0 ws w' g κs κ' c s ((b,cs,T)::l)→wpList Tryz.prog ops Q rest (a.put o.dst (.pointer (some ⟨b,0,none⟩))) w'):wpList Tryz.prog ops Q (o::rest) a w:=
 wpList_plain hgd fun K hK=>wp_box cs H x ho hx fun w' b κ' q0=>hK _ _ (h w' b κ' q0)
theorem wp_sl(hT:Cel T n)(b:Nat)(old:Array Value)(t:TypeId)(H:St' w0 ws w g κs κ c s ((b,old,t)::l))(x y:Operand)(ho:o.op= .store T x y)(k:Nat)(hx:a.eval x= .pointer (some ⟨b,k,none⟩))(v:Value)(hy:a.eval y=v)(hv:v.cells.size=n)(h1:Ones v.cells)(h2:k+n≤old.size)(new:Array Value)(hn:putA old k v.cells=new)(h:∀ w',Off b w w'→St' w0 ws w' g κs κ c s ((b,new,t)::l)→K (a.put o.dst undef) w'):Oper.wp Tryz.prog o a w K Q:=by
 obtain⟨q1,q2,q3⟩:=H.lc _ mm0
 simp only at q1 q2 q3
 refine wp_put hT x y ho b k hx v hy hv h1 t old q1 h2 ?_
 rw[hn]
 have hlt:=(Array.getElem?_eq_some_iff.1 q1).1
 have t6:Tr κ κ 6 w (w.setRow b new):=⟨rfl,rfl,rfl,by rw[row_size];exact Nat.le_refl _,fun j hj hne=>row_other w b j new (fun e=>hne (by rw[e];exact q2)),fun _ _=>rfl,fun j hj hh=>absurd (H.m.r.lt j hh) (by omega)⟩
 have hm:=H.m.tr t6 (by decide) (by decide) (by decide) (by decide) (by decide) (by decide)
 have nd:=List.pairwise_cons.1 H.nd
 refine h _ (Off.row new) ⟨hm,⟨by rw[row_size];exact H.kp.size,fun j hj hk=>(row_other w b j new (by omega)).trans (H.kp.heap j hj hk)⟩,H.sm,fun y hy=>?_,List.pairwise_cons.2 ⟨fun y hy=>nd.1 y hy,nd.2⟩⟩
 rcases List.mem_cons.1 hy with e|hy
 ·subst e;exact⟨setRow_heap w b _ _ _ _ q1,q2,q3⟩
 ·have hne:=nd.1 y hy
  obtain⟨r1,r2,r3⟩:=H.lc y (List.mem_cons_of_mem _ hy)
  exact⟨(row_other w b y.1 new (Ne.symm hne)).trans r1,r2,r3⟩
theorem st_sl(hgd:o.guard=none)(hT:Cel T n)(b:Nat)(old:Array Value)(t:TypeId)(H:St' w0 ws w g κs κ c s ((b,old,t)::l))(x y:Operand)(ho:o.op= .store T x y)(k:Nat)(hx:a.eval x= .pointer (some ⟨b,k,none⟩))(v:Value)(hy:a.eval y=v)(hv:v.cells.size=n)(h1:Ones v.cells)(h2:k+n≤old.size)(new:Array Value)(hn:putA old k v.cells=new)(h:∀ w',Off b w w'→St' w0 ws w' g κs κ c s ((b,new,t)::l)→wpList Tryz.prog ops Q rest (a.put o.dst undef) w'):wpList Tryz.prog ops Q (o::rest) a w:=
 wpList_plain hgd fun K hK=>wp_sl hT b old t H x y ho k hx v hy hv h1 h2 new hn fun w' q0 q1=>hK _ _ (h w' q0 q1)
theorem wp_slw(hT:Cel T n)(b:Nat)(old:Array Value)(t:TypeId)(H:St' w0 ws w g κs κ c s ((b,old,t)::l))(x y:Operand)(ho:o.op= .store T x y)(hx:a.eval x= .pointer (some ⟨b,0,none⟩))(cs:Array Value)(hy:a.eval y= .agg cs)(hs:cs.size=n)(h1:Ones cs)(h2:old.size=n)(h:∀ w',Off b w w'→St' w0 ws w' g κs κ c s ((b,cs,t)::l)→K (a.put o.dst undef) w'):Oper.wp Tryz.prog o a w K Q:=by
 exact wp_sl hT b old t H x y ho 0 hx (.agg cs) hy hs h1 (by omega) cs (putA_all old cs (by omega)) h
theorem st_slw(hgd:o.guard=none)(hT:Cel T n)(b:Nat)(old:Array Value)(t:TypeId)(H:St' w0 ws w g κs κ c s ((b,old,t)::l))(x y:Operand)(ho:o.op= .store T x y)(hx:a.eval x= .pointer (some ⟨b,0,none⟩))(cs:Array Value)(hy:a.eval y= .agg cs)(hs:cs.size=n)(h1:Ones cs)(h2:old.size=n)(h:∀ w',Off b w w'→St' w0 ws w' g κs κ c s ((b,cs,t)::l)→wpList Tryz.prog ops Q rest (a.put o.dst undef) w'):wpList Tryz.prog ops Q (o::rest) a w:=
 wpList_plain hgd fun K hK=>wp_slw hT b old t H x y ho hx cs hy hs h1 h2 fun w' q0 q1=>hK _ _ (h w' q0 q1)
theorem step_slw(hgd:o.guard=none)(hT:Cel T n)(b:Nat)(old:Array Value)(t:TypeId)(H:St' w0 ws w g κs κ c s ((b,old,t)::l))(x y:Operand)(ho:o.op= .store T x y)(hx:a.eval x= .pointer (some ⟨b,0,none⟩))(cs:Array Value)(hy:a.eval y= .agg cs)(hs:cs.size=n)(h1:Ones cs)(h2:old.size=n)(h:∀ w',Off b w w'→St' w0 ws w' g κs κ c s ((b,cs,t)::l)→K (a.put o.dst undef) w'):if Region.wanted o (yielded ops a.tmps)=true then Oper.wp Tryz.prog o a w K Q else E:=toStep hgd (wp_slw hT b old t H x y ho hx cs hy hs h1 h2 h)
theorem wp_sb(hT:Cel T n)(H:Md w0 ws w g κs κ c s c' s' l)(x y:Operand)(ho:o.op= .store T x y)(k:Nat)(hx:a.eval x= .pointer (some ⟨g,k,none⟩))(v:Value)(hy:a.eval y=v)(hv:v.cells.size=n)(h1:Ones v.cells)(hk:k+n≤64)(hset:putA (coC c s) k v.cells=coC c' s')(h:∀ w',St' w0 ws w' g κs κ c' s' l→K (a.put o.dst undef) w'):Oper.wp Tryz.prog o a w K Q:=by
 refine wp_put hT x y ho g k hx v hy hv h1 67 _ H.box (by rw[coC_size];exact hk) ?_
 exact h _ (H.off (Off.row _) (by rw[setRow_heap w g _ _ _ _ H.box,hset]))
theorem st_sb(hgd:o.guard=none)(hT:Cel T n)(H:Md w0 ws w g κs κ c s c' s' l)(x y:Operand)(ho:o.op= .store T x y)(k:Nat)(hx:a.eval x= .pointer (some ⟨g,k,none⟩))(v:Value)(hy:a.eval y=v)(hv:v.cells.size=n)(h1:Ones v.cells)(hk:k+n≤64)(hset:putA (coC c s) k v.cells=coC c' s')(h:∀ w',St' w0 ws w' g κs κ c' s' l→wpList Tryz.prog ops Q rest (a.put o.dst undef) w'):wpList Tryz.prog ops Q (o::rest) a w:=
 wpList_plain hgd fun K hK=>wp_sb hT H x y ho k hx v hy hv h1 hk hset fun w' q0=>hK _ _ (h w' q0)
theorem step_sb(hgd:o.guard=none)(hT:Cel T n)(H:Md w0 ws w g κs κ c s c' s' l)(x y:Operand)(ho:o.op= .store T x y)(k:Nat)(hx:a.eval x= .pointer (some ⟨g,k,none⟩))(v:Value)(hy:a.eval y=v)(hv:v.cells.size=n)(h1:Ones v.cells)(hk:k+n≤64)(hset:putA (coC c s) k v.cells=coC c' s')(h:∀ w',St' w0 ws w' g κs κ c' s' l→K (a.put o.dst undef) w'):if Region.wanted o (yielded ops a.tmps)=true then Oper.wp Tryz.prog o a w K Q else E:=toStep hgd (wp_sb hT H x y ho k hx v hy hv h1 hk hset h)
theorem wp_se(hT:Cel T n)(H:St' w0 ws w g κs κ c s l)(x y:Operand)(ho:o.op= .store T x y)(r off i j:Nat)(e e':En)(ht:s.rob.a=some ⟨r,off,none⟩)(hi:c.rob[i]?=some e)(hx:a.eval x= .pointer (some ⟨r,off+i*17+j,none⟩))(v:Value)(hy:a.eval y=v)(hv:v.cells.size=n)(h1:Ones v.cells)(hj:j+n≤17)(he:enC e'=putA (enC e) j v.cells)(h:∀ w',St' w0 ws w' g κs κ { c with rob:=c.rob.set i e' } s l→K (a.put o.dst undef) w'):Oper.wp Tryz.prog o a w K Q:=by
 exact wp_el hT H.m x y ho ht hi hx v hy hv h1 hj he fun w' h1 h2=>h w' (H.call h1 h2 (Same.refl _ _))
theorem st_se(hgd:o.guard=none)(hT:Cel T n)(H:St' w0 ws w g κs κ c s l)(x y:Operand)(ho:o.op= .store T x y)(r off i j:Nat)(e e':En)(ht:s.rob.a=some ⟨r,off,none⟩)(hi:c.rob[i]?=some e)(hx:a.eval x= .pointer (some ⟨r,off+i*17+j,none⟩))(v:Value)(hy:a.eval y=v)(hv:v.cells.size=n)(h1:Ones v.cells)(hj:j+n≤17)(he:enC e'=putA (enC e) j v.cells)(h:∀ w',St' w0 ws w' g κs κ { c with rob:=c.rob.set i e' } s l→wpList Tryz.prog ops Q rest (a.put o.dst undef) w'):wpList Tryz.prog ops Q (o::rest) a w:=
 wpList_plain hgd fun K hK=>wp_se hT H x y ho r off i j e e' ht hi hx v hy hv h1 hj he fun w' q0=>hK _ _ (h w' q0)
theorem step_se(hgd:o.guard=none)(hT:Cel T n)(H:St' w0 ws w g κs κ c s l)(x y:Operand)(ho:o.op= .store T x y)(r off i j:Nat)(e e':En)(ht:s.rob.a=some ⟨r,off,none⟩)(hi:c.rob[i]?=some e)(hx:a.eval x= .pointer (some ⟨r,off+i*17+j,none⟩))(v:Value)(hy:a.eval y=v)(hv:v.cells.size=n)(h1:Ones v.cells)(hj:j+n≤17)(he:enC e'=putA (enC e) j v.cells)(h:∀ w',St' w0 ws w' g κs κ { c with rob:=c.rob.set i e' } s l→K (a.put o.dst undef) w'):if Region.wanted o (yielded ops a.tmps)=true then Oper.wp Tryz.prog o a w K Q else E:=toStep hgd (wp_se hT H x y ho r off i j e e' ht hi hx v hy hv h1 hj he h)
end
section
variable {w0 ws w:World} {g:Nat} {κs κ:Nat→Nat} {c c':Co} {s s':Ss} {l l':List Lc} {ops:Array Oper} {rest:List Oper} {o:Oper} {a:Act} {Q:Exit→Act→World→Prop} {K:Act→World→Prop} {E:Prop} {T n:Nat}
theorem beginS(gate:Nat){l0:Array Bool}(H:St' w0 ws w g κs κ c s l)(hm:Tryz.prog.follows .mixedOrders=true){id:Nat}(h:St' w0 ws w.drew g κs κ c s l→wpAnyC Tryz.prog .any ops Q gate (fun w'=>St' w0 ws w' g κs κ c s l) ops.size l0 a w.drew)(hl:Array.replicate ops.size false=l0):(Code.region id ops true).wp Tryz.prog Q a w:=
 beginC gate _ hm (hl▸h H.drew)
theorem wp_fn(f:Nat)(args:Array Value)(R:Ending→World→Prop)(hc:Calls Tryz.prog f args w R)(hrun:(execOp a.eval o).run Tryz.prog w= .ok (.enter f args) w)(h:∀ e w',R e w'→∃ v,e= .returned v∧K (a.put o.dst v) w'):Oper.wp Tryz.prog o a w K Q:=by
 unfold Oper.wp
 rw[hrun]
 show Calls Tryz.prog f args w _
 refine hc.mono ?_
 intro e w' he
 obtain⟨v,rfl,hk⟩:=h e w' he
 exact hk
theorem step_fn(hgd:o.guard=none)(f:Nat)(args:Array Value)(R:Ending→World→Prop)(hc:Calls Tryz.prog f args w R)(hrun:(execOp a.eval o).run Tryz.prog w= .ok (.enter f args) w)(h:∀ e w',R e w'→∃ v,e= .returned v∧K (a.put o.dst v) w'):if Region.wanted o (yielded ops a.tmps)=true then Oper.wp Tryz.prog o a w K Q else E:=
 toStep hgd (wp_fn f args R hc hrun h)
end
theorem cel58:Cel 58 9:=by unfold Cel;kernel_rfl
theorem cel89:Cel 89 2:=by unfold Cel;kernel_rfl
theorem cel98:Cel 98 4:=by unfold Cel;kernel_rfl
theorem cel46:Cel 46 3:=by unfold Cel;kernel_rfl
theorem cel83:Cel 83 5:=by unfold Cel;kernel_rfl
end Go.Proofs.YtdmhfogegfmnfaaGreatDoor
