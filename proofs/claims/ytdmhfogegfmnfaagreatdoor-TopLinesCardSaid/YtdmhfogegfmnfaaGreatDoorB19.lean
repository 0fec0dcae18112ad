/- Contracts: a register's value as an entry reads it; both. Conditions: the entries read as a list; the place stands among them. Contracts, weak: small questions answer, and leave what was there. No conditions. Contracts: the first wrong guess; how far all is safe. Conditions: the entries read as a list. Contracts, weak: whether an entry may. Conditions: the entries read as a .. -/
import Derived.Test.YtdmhfogegfmnfaaGreatDoorB00
import Derived.Test.YtdmhfogegfmnfaaGreatDoorB01
import Derived.Test.YtdmhfogegfmnfaaGreatDoorB03
import Derived.Test.YtdmhfogegfmnfaaGreatDoorB04
import Derived.Test.YtdmhfogegfmnfaaGreatDoorB09
import Derived.Test.YtdmhfogegfmnfaaGreatDoorB10
import Derived.Test.YtdmhfogegfmnfaaGreatDoorB17
set_option maxRecDepth 100000
set_option maxHeartbeats 4000000
set_option linter.unusedVariables false
set_option linter.unusedSimpArgs false
namespace Go.Proofs.YtdmhfogegfmnfaaGreatDoor
open Go.RowKit
section
open Go.RowKit Go.Shelf
section
attribute [local go_sem] Oper.semAt_some
theorem maker_out(A:Option Addr)(nL C:Nat)(L:List En)(m:Nat)(reg:Int)(w:World)(hc:reg<1∨31<reg):CallsIn Fence.wide 6 Tryz.prog 87 #[.slice A nL C,.int .i64 (m:Int),.int .i64 reg] w fun e w'=>e= .returned (.int .i64 (makerE L m reg))∧Below w.heap.size w w':=by
 have HE:=Lib.hid (show makerE L m reg= -1 by unfold makerE;rw[if_pos hc])
 have bR:=((Boxed.new w 3 (.int .i64 reg)).alloc (.cells #[.int .i64 0] 3))
 have bO:=(Boxed.new (w.alloc (.cells #[.int .i64 reg] 3)) 3 (.int .i64 0))
 simp only[World.size_alloc]at bO
 refine callsIn_of_wp_marks Tryz.func87 rfl trivial ?_ rfl
 simp only[Tryz.ntmps87,List.size_toArray,List.length_cons,List.length_nil,Nat.reduceAdd,Nat.reduceSub,Array.replicate_succ,Array.replicate_zero,List.push_toArray,List.append_toArray,List.nil_append,List.cons_append]
 have hq:reg<1∨(¬ reg<1∧31<reg):=by omega
 clear hc
 rcases hq with h|⟨h,h2⟩
 all_goals
  gi_wp2
  have hc5:=(Boxed.new (w.alloc (.cells #[.int .i64 reg] 3)) 3 (.int .i64 (-1))).cell
  rw[World.size_alloc]at hc5
  refine⟨.int .i64 (-1),?_,by rw[HE.out],((Below.refl _ w).alloc (Nat.le_refl _) _).alloc (by simp) _⟩
  simp[results,Tryz.f87,go_sem,hc5]
end
theorem maker_any(A:Option Addr)(nL C:Nat)(L:List En)(m:Nat)(reg:Int)(w:World)(hL:Sl enC 17 w A nL L)(hmn:m≤nL):Calls Tryz.prog 87 #[.slice A nL C,.int .i64 (m:Int),.int .i64 reg] w fun e w'=>e= .returned (.int .i64 (makerE L m reg))∧Below w.heap.size w w':=by
 by_cases c:reg<1∨31<reg
 ·exact callsIn_wide.1 (maker_out A nL C L m reg w c)
 ·exact callsIn_wide.1 (maker_in A nL C L m reg w hL hmn (by omega) (by omega))
theorem makerR_bd(L:List En)(reg:Int):∀ m:Nat,makerR L reg m= -1∨∃ k:Nat,makerR L reg m=k∧k<m
 | 0=>.inl rfl
 | m+1=>by
  unfold makerR
  split
  ·exact .inr ⟨m,rfl,by omega⟩
  ·rcases makerR_bd L reg m with h|⟨k,h,h2⟩
   ·exact .inl h
   ·exact .inr ⟨k,h,by omega⟩
theorem makerE_bd(L:List En)(m:Nat)(hm:m≤L.length)(reg:Int):makerE L m reg= -1∨∃ k:Nat,makerE L m reg=k∧k<m:=by
 unfold makerE
 split
 ·exact .inl rfl
 ·rw[show(min (m:Int) (L.length:Int)).toNat=m by omega];exact makerR_bd L reg m
def RdeP(L:List En)(regs:List U)(m:Nat)(reg:Int)(w:World)(e:Ending)(w':World):Prop:=e= .returned (.tuple #[.int .u32 (readE L regs m reg).1.v,.bool (readE L regs m reg).2])∧Below w.heap.size w w'
theorem ret_rde{L:List En}{regs:List U}{m:Nat}{reg:Int}{x:U}{b:Bool}(h:readE L regs m reg=(x,b)):Ending.returned (.tuple #[.int .u32 x.v,.bool b])= .returned (.tuple #[.int .u32 (readE L regs m reg).1.v,.bool (readE L regs m reg).2]):=by rw[h]
theorem sread_any(A:Option Addr)(n C:Nat)(L:List En)(regs:List U)(m:Nat)(reg:Int)(w:World)(hL:Sl enC 17 w A n L)(hmn:m≤n):Calls Tryz.prog 54 #[.slice A n C,.agg (rgC regs),.int .i64 (m:Int),.int .i64 reg] w (RdeP L regs m reg w):=by
 have hl:=hL.len
 have hn:=hL.few
 have HL:=Lib.hid hL
 have H:=Lo.start w
 by_cases c0:reg=0
 ·have HE:=Lib.hid (show readE L regs m reg=(U.of 0,true) by unfold readE;rw[if_pos c0])
  have d0:(reg== 0)=true:=by rw[c0];rfl
  clear c0 hL
  go_enter Tryz.func54,Tryz.ntmps54
  go_wp2_with (((with_reducible refine gBx 29 1 ?_);refine st_Lbox rfl _ H _ rfl rfl ?_;clear H;intro w1 b1 H;go_frame))
  go_ret2
  exact⟨ret_rde HE.out,H.bl⟩
 ·have d0:(reg== 0)=false:=by rw[beq_eq_false_iff_ne];exact c0
  by_cases c1:reg<0
  ·have HE:=Lib.hid (show readE L regs m reg=(U.of 0,false) by unfold readE;rw[if_neg c0,if_pos (.inl c1)])
   clear c0 hL
   go_enter Tryz.func54,Tryz.ntmps54
   go_wp2_with (((with_reducible refine gBx 29 1 ?_);refine st_Lbox rfl _ H _ rfl rfl ?_;clear H;intro w1 b1 H;go_frame))
   go_ret2
   exact⟨ret_rde HE.out,H.bl⟩
  ·by_cases c2:31<reg
   ·have HE:=Lib.hid (show readE L regs m reg=(U.of 0,false) by unfold readE;rw[if_neg c0,if_pos (.inr c2)])
    clear c0 hL
    go_enter Tryz.func54,Tryz.ntmps54
    go_wp2_with (((with_reducible refine gBx 29 1 ?_);refine st_Lbox rfl _ H _ rfl rfl ?_;clear H;intro w1 b1 H;go_frame))
    go_ret2
    exact⟨ret_rde HE.out,H.bl⟩
   ·have MK:=Lib.hid (fun W h=>maker_any A n C L m reg W h hmn)
    have HR:readE L regs m reg=(if makerE L m reg<0 then(regs.getD reg.toNat (U.of 0),true)else if(L.getD (makerE L m reg).toNat default).is=3∧(L.getD (makerE L m reg).toNat default).halt=0 then((L.getD (makerE L m reg).toNat default).value,true)else(U.of 0,false)):=by
     unfold readE;rw[if_neg c0,if_neg (by omega)]
    rcases makerE_bd L m (by omega) reg with hk|⟨k,hk,hkm⟩
    ·rw[hk]at MK HR
     rw[if_pos (by decide)]at HR
     have HE:=Lib.hid HR
     obtain⟨r,rfl⟩:∃ r:Nat,reg=(r:Int):=⟨reg.toNat,by omega⟩
     rw[Int.toNat_natCast]at HE
     have hr:r<32:=by omega
     have b1:(0:Int)≤(r:Int):=by omega
     have b2:(r:Int)<32:=by omega
     have HG:=Lib.hid (show(rgC regs)[r]?=some (.int .u32 (regs.getD r (U.of 0)).v) by rw[rgC_get,if_pos hr])
     clear c0 hL hk HR
     go_enter Tryz.func54,Tryz.ntmps54
     go_wp2_with (first|(go_at_call 87;refine(MK.out _ (HL.out.below H.bl)).mono ?_;rintro r w1 ⟨rfl,hb⟩;replace H:=H.below hb)|((with_reducible refine gL 28 27 ?_);refine st_Lll1 rfl one28 H _ rfl _ r rfl _ _ mm0 _ HG.out ?_;try simp only[Act.put,xA,xB,xC,fR])|((with_reducible refine gBx 29 1 ?_);refine st_Lbox rfl _ H _ rfl rfl ?_;clear H;intro w1 b1 H;go_frame))
     go_ret2
     exact⟨ret_rde HE.out,H.bl⟩
    ·rw[hk]at MK HR
     rw[if_neg (by omega),Int.toNat_natCast]at HR
     obtain⟨g,off,y,rfl,hg,hy,hc⟩:=hL.at_ (i:=k) (by omega)
     have hyd:L.getD k default=y:=by rw[List.getD_eq_getElem?_getD,hy];rfl
     rw[hyd]at HR
     have HC:=Lib.hid hc
     have HGG:=Lib.hid hg
     have b1:(0:Int)≤(k:Int):=by omega
     have b2:(k:Int)<(n:Int):=by omega
     have key:((y.is== 3)=true∧(y.halt== 0)=true∧Hid (readE L regs m reg=(y.value,true)))∨((y.is== 3)=true∧(y.halt== 0)=false∧Hid (readE L regs m reg=(U.of 0,false)))∨((y.is== 3)=false∧Hid (readE L regs m reg=(U.of 0,false))):=by
      by_cases q1:y.is=3
      ·by_cases q2:y.halt=0
       ·exact .inl ⟨by rw[q1];rfl,by rw[q2];rfl,Lib.hid (by rw[HR,if_pos ⟨q1,q2⟩])⟩
       ·exact .inr (.inl ⟨by rw[q1];rfl,by rw[beq_eq_false_iff_ne];exact q2,Lib.hid (by rw[HR,if_neg (fun h=>q2 h.2)])⟩)
      ·exact .inr (.inr ⟨by rw[beq_eq_false_iff_ne];exact q1,Lib.hid (by rw[HR,if_neg (fun h=>q1 h.1)])⟩)
     clear c0 hL hk HR hy hyd hc hg
     rcases key with⟨q1,q2,HE⟩|⟨q1,q2,HE⟩|⟨q1,HE⟩
     all_goals
      go_enter Tryz.func54,Tryz.ntmps54
      go_wp2_with (first|(go_at_call 87;refine(MK.out _ (HL.out.below H.bl)).mono ?_;rintro r w1 ⟨rfl,hb⟩;replace H:=H.below hb)|((with_reducible refine gL 85 31 ?_);refine st_lrow rfl row85 _ rfl g (off+k*17) rfl (enC y) rfl (fun j v hv=>(H.bl.cell (p:=⟨g,_,none⟩) HGG.out).trans (HC.out j v hv)) ?_;try simp only[Act.put,xA,xB,xC,fR])|((with_reducible refine gBx 29 1 ?_);refine st_Lbox rfl _ H _ rfl rfl ?_;clear H;intro w1 b1 H;go_frame)|((with_reducible refine gAl 85 ?_);refine st_Lal rfl (enC enZ) zero85 H rfl ?_;clear H;intro w1 b1 hlt1 hb1 H;go_frame)|((with_reducible refine gS 85 11 ?_);refine st_Lslw rfl cel85 _ _ _ H _ _ rfl rfl _ rfl rfl rfl rfl ?_;clear H;intro w1 ho1 H;go_frame)|((with_reducible refine gL 3 33 ?_);refine st_Lll1 rfl one3 H _ rfl _ 8 rfl _ _ mm0 _ (enC_8 _) ?_;go_frame)|((with_reducible refine gL 3 37 ?_);refine sTj rfl ?_;refine wp_Lll1 one3 H _ rfl _ 13 rfl _ _ mm0 _ (enC_13 _) ?_;go_frame)|((with_reducible refine gL 28 41 ?_);refine st_Lll1 rfl one28 H _ rfl _ 10 rfl _ _ mm0 _ (enC_10 _) ?_;go_frame))
      go_ret2
      exact⟨ret_rde HE.out,H.bl⟩
def BothP(L:List En)(regs:List U)(m:Nat)(w:World)(e:Ending)(w':World):Prop:=e= .returned (.tuple #[.int .u32 (bothE L regs m).1.v,.int .u32 (bothE L regs m).2.1.v,.bool (bothE L regs m).2.2])∧Below w.heap.size w w'
theorem ret_both{L:List En}{regs:List U}{m:Nat}{x y:U}{b:Bool}(h:bothE L regs m=(x,y,b)):Ending.returned (.tuple #[.int .u32 x.v,.int .u32 y.v,.bool b])= .returned (.tuple #[.int .u32 (bothE L regs m).1.v,.int .u32 (bothE L regs m).2.1.v,.bool (bothE L regs m).2.2]):=by rw[h]
theorem both_any(A:Option Addr)(n C:Nat)(L:List En)(regs:List U)(m:Nat)(w:World)(hL:Sl enC 17 w A n L)(hmn:m<n):Calls Tryz.prog 94 #[.slice A n C,.agg (rgC regs),.int .i64 (m:Int)] w (BothP L regs m w):=by
 have hl:=hL.len
 have hn:=hL.few
 obtain⟨g,off,y,rfl,hg,hy,hc⟩:=hL.at_ hmn
 have hyd:L.getD m default=y:=by rw[List.getD_eq_getElem?_getD,hy];rfl
 obtain⟨x1,b1,h1⟩:∃ x b,readE L regs m y.i.r1=(x,b):=⟨_,_,rfl⟩
 obtain⟨x2,b2,h2⟩:∃ x b,readE L regs m y.i.r2=(x,b):=⟨_,_,rfl⟩
 have HE:=Lib.hid (show bothE L regs m=(x1,x2,b1&&b2) by
  unfold bothE
  rw[if_neg (by omega),Int.toNat_natCast,hyd]
  simp only[h1,h2])
 have R1:=Lib.hid (fun W h=>sread_any (some ⟨g,off,none⟩) n C L regs m y.i.r1 W h (Nat.le_of_lt hmn))
 have R2:=Lib.hid (fun W h=>sread_any (some ⟨g,off,none⟩) n C L regs m y.i.r2 W h (Nat.le_of_lt hmn))
 unfold RdeP at R1 R2
 rw[h1]at R1
 rw[h2]at R2
 simp only at R1 R2
 have HL:=Lib.hid hL
 have HC:=Lib.hid hc
 have HG:=Lib.hid hg
 have H:=Lo.start w
 have q1:¬ (m:Int)<0:=by omega
 have q2:¬ (n:Int)≤(m:Int):=by omega
 have q3:(0:Int)≤(m:Int):=by omega
 have q4:(m:Int)<(n:Int):=by omega
 clear hL hc hg hy hyd h1 h2
 go_enter Tryz.func94,Tryz.ntmps94
 go_wp2_with (first|(go_at_call 53;refine(reads_any _ _ _ _ _ _).mono ?_;rintro r w1 ⟨rfl,hb⟩;replace H:=H.below hb)|((with_reducible refine gL 83 27 ?_);refine st_lrow rfl row83 _ rfl g (off+m*17+2) rfl (inC y.i) rfl (fun j v hv=>(H.bl.cell (p:=⟨g,_,none⟩) HG.out).trans (by have h0:=HC.out (2+j) v (sub_inst y j v hv);rw[← Nat.add_assoc]at h0;exact h0)) ?_;try simp only[Act.put,xA,xB,xC,fR])|((with_reducible refine gL 29 4 ?_);refine st_Lllr rfl row29 H _ rfl _ 0 rfl _ _ mm0 _ (rgC_size _) (Sub.all _) ?_;try simp only[Act.put,xA,xB,xC,fR])|(go_at_call 54;first|(refine(R1.out _ (HL.out.below H.bl)).mono ?_;clear R1;rintro r w1 ⟨rfl,hb⟩;replace H:=H.below hb)|(refine(R2.out _ (HL.out.below H.bl)).mono ?_;clear R2;rintro r w1 ⟨rfl,hb⟩;replace H:=H.below hb))|((with_reducible refine gBx 29 1 ?_);refine st_Lbox rfl _ H _ rfl rfl ?_;clear H;intro w1 b1 H;go_frame))
 all_goals
  go_ret3
  refine⟨ret_both ?_,H.bl⟩
  rw[HE.out]
  simp_all
end
def YesNo(w:World)(e:Ending)(w':World):Prop:=(∃ b:Bool,e= .returned (.bool b))∧Below w.heap.size w w'
def Numb(w:World)(e:Ending)(w':World):Prop:=(∃ x:Int,e= .returned (.int .i64 x))∧Below w.heap.size w w'
theorem tells_any(e:En)(w:World):Calls Tryz.prog 114 #[.agg (enC e)] w (YesNo w):=by
 go_enter Tryz.func114,Tryz.ntmps114
 go_wp2_with ((go_at_call 52;refine(kind_any _ _ _ _ _ _).mono ?_;rintro r w1 ⟨rfl,hb⟩;obtain⟨ow,kw,rfl⟩:=more_of hb;clear hb))
 all_goals
  go_ret
  exact⟨⟨_,rfl⟩,by(repeat(first|exact Below.refl _ _|(refine Below.alloc ?_ ?_ _;rotate_left;(omega))|(refine bl_more ?_ ?_ _ _;rotate_left;(simp only[sZ]<;>omega))))⟩
theorem safe_any(e:En)(w:World):Calls Tryz.prog 147 #[.agg (enC e)] w (YesNo w):=by
 go_enter Tryz.func147,Tryz.ntmps147
 go_wp2_with ((go_at_call 52;refine(kind_any _ _ _ _ _ _).mono ?_;rintro r w1 ⟨rfl,hb⟩;obtain⟨ow,kw,rfl⟩:=more_of hb;clear hb))
 all_goals
  go_ret
  exact⟨⟨_,rfl⟩,by(repeat(first|exact Below.refl _ _|(refine Below.alloc ?_ ?_ _;rotate_left;(omega))|(refine bl_more ?_ ?_ _ _;rotate_left;(simp only[sZ]<;>omega))))⟩
theorem calls_any(i:In)(w:World):Calls Tryz.prog 91 #[.agg (inC i)] w (YesNo w):=by
 go_enter Tryz.func91,Tryz.ntmps91
 go_wp2_with fail
 all_goals
  go_ret
  exact⟨⟨_,rfl⟩,by(repeat(first|exact Below.refl _ _|(refine Below.alloc ?_ ?_ _;rotate_left;(omega))))⟩
theorem back_any(i:In)(w:World):Calls Tryz.prog 92 #[.agg (inC i)] w (YesNo w):=by
 go_enter Tryz.func92,Tryz.ntmps92
 go_wp2_with fail
 all_goals
  go_ret
  exact⟨⟨_,rfl⟩,by(repeat(first|exact Below.refl _ _|(refine Below.alloc ?_ ?_ _;rotate_left;(omega))))⟩
theorem end_any(a:U)(n:Int)(h1:n≤1000000)(w:World):Calls Tryz.prog 149 #[.int .u32 a.v,.int .i64 n] w fun e w'=>e= .returned (.int .u64 (a.v+(if n<0 then 0 else n)))∧w=w':=by
 have x0:=a.lo
 have x1:=a.hi
 by_cases c:n<0
 all_goals
  go_enter Tryz.func149,Tryz.ntmps149
  go_wp2
  all_goals
   go_ret
   first|exact⟨by simp[c],rfl⟩|fail
theorem wrong_nil(L:List En)(n:Nat)(h:L.length=n)(r:Int)(e:wrongI (L.drop n) n=r):r= -1:=by
 rw[List.drop_of_length_le (by omega)]at e
 exact e.symm
theorem wrong_hit(L:List En)(k:Nat)(y:En)(h:L[k]?=some y)(hw:wrongE y=true)(r:Int)(e:wrongI (L.drop k) k=r):r=k:=by
 have hk:k<L.length:=(List.getElem?_eq_some_iff.1 h).1
 have hy:L[k]=y:=(List.getElem?_eq_some_iff.1 h).2
 rw[List.drop_eq_getElem_cons hk,hy]at e
 unfold wrongI at e
 rw[hw,if_pos rfl]at e
 exact e.symm
theorem wrong_next(L:List En)(k:Nat)(y:En)(h:L[k]?=some y)(hw:wrongE y=false)(r:Int)(e:wrongI (L.drop k) k=r):wrongI (L.drop (k+1)) (k+1)=r:=by
 have hk:k<L.length:=(List.getElem?_eq_some_iff.1 h).1
 have hy:L[k]=y:=(List.getElem?_eq_some_iff.1 h).2
 rw[List.drop_eq_getElem_cons hk,hy]at e
 unfold wrongI at e
 rw[hw]at e
 simpa using e
theorem wrong_any(A:Option Addr)(n C:Nat)(L:List En)(w:World)(hL:Sl enC 17 w A n L):Calls Tryz.prog 56 #[.slice A n C] w fun e w'=>e= .returned (.int .i64 (wrongI L 0))∧Below w.heap.size w w':=by
 have hn:=hL.few
 have HL:=Lib.hid hL
 clear hL
 go_enter Tryz.func56,Tryz.ntmps56
 go_wp2
 go_loopw [7] (fun i wr=>∃(k:Nat),k≤n∧i= .int .i64 k∧Hid (wrongI (L.drop k) k=wrongI L 0)∧Below w.heap.size w wr) (fun i _=>n-(intOf i).toNat)
 case atStart=>exact⟨0,by omega,rfl,Lib.hid rfl,Below.refl _ _⟩
 case round=>
  obtain⟨k,hk,rfl,HG,HB⟩:=hrel
  have hBs:=HB.size
  by_cases hlt:k<n
  ·obtain⟨g,off,y,rfl,hg,hy,hc⟩:=(HL.out.below HB).at_ hlt
   have HY:=Lib.hid hy
   have HC:=Lib.hid hc
   clear hy hc
   by_cases c1:kd y.i.op=5
   ·have d1:(kd y.i.op== 5)=true:=by rw[c1];rfl
    cases c2:y.known with
    | true=>
     by_cases c3:y.next=y.guess
     ·have d3:(y.next.v != y.guess.v)=false:=by rw[c3];simp
      have HW:=Lib.hid (show wrongE y=false by unfold wrongE;simp[c3])
      clear c1 c3
      go_wp2_with (first|((with_reducible refine gAl 85 ?_);refine alloc_row (enC enZ) zero85 rfl rfl ?_;try simp only[Act.put,xA,xB,xC,fR])|((with_reducible refine gD (Op.store 85 _ _) ?_);apply store_row row85 rfl _ _ rfl _ (enC _) rfl rfl (enC_size _) (enC_ones _) (t:=85) (old:=enC _) (h2:=enC_size _);(·(repeat((refine heap_at _ _ _ ?_;(with_reducible rfl)))));try simp only[Act.put,xA,xB,xC,fR];try simp (disch:=(first|with_reducible rfl|fail)) only[more_row,alloc_row_past,alloc_row_at,drew_row,drewN_row])|(go_at_call 52;refine(kind_any _ _ _ _ _ _).mono ?_;rintro r w1 ⟨rfl,hb⟩;obtain⟨ow,kw,rfl⟩:=more_of hb;clear hb)|((with_reducible refine gL 85 10 ?_);refine take_el row85 rfl _ rfl g (off+k*17) rfl y (enC_size y) HC.out ?_;try simp only[Act.put,xA,xB,xC,fR]))
      go_roundw
      case rel=>exact⟨k+1,by omega,by go_num,Lib.hid (wrong_next L k y HY.out HW.out _ HG.out),by(repeat(first|assumption|(refine Below.alloc ?_ ?_ _;rotate_left;(omega))|(refine bl_more ?_ ?_ _ _;rotate_left;(simp only[sZ]<;>omega))))⟩
      case measure=>simp[intOf];omega
     ·have d3:(y.next.v != y.guess.v)=true:=by rw[bne_iff_ne];exact fun e=>c3 (U.eq_of e)
      have HW:=Lib.hid (show wrongE y=true by unfold wrongE;simp[c1,c2,c3])
      clear c1 c3
      go_wp2_with (first|((with_reducible refine gAl 85 ?_);refine alloc_row (enC enZ) zero85 rfl rfl ?_;try simp only[Act.put,xA,xB,xC,fR])|((with_reducible refine gD (Op.store 85 _ _) ?_);apply store_row row85 rfl _ _ rfl _ (enC _) rfl rfl (enC_size _) (enC_ones _) (t:=85) (old:=enC _) (h2:=enC_size _);(·(repeat((refine heap_at _ _ _ ?_;(with_reducible rfl)))));try simp only[Act.put,xA,xB,xC,fR];try simp (disch:=(first|with_reducible rfl|fail)) only[more_row,alloc_row_past,alloc_row_at,drew_row,drewN_row])|(go_at_call 52;refine(kind_any _ _ _ _ _ _).mono ?_;rintro r w1 ⟨rfl,hb⟩;obtain⟨ow,kw,rfl⟩:=more_of hb;clear hb)|((with_reducible refine gL 85 10 ?_);refine take_el row85 rfl _ rfl g (off+k*17) rfl y (enC_size y) HC.out ?_;try simp only[Act.put,xA,xB,xC,fR]))
      go_ret
      exact⟨ret_i (wrong_hit L k y HY.out HW.out _ HG.out).symm,by(repeat(first|assumption|(refine Below.alloc ?_ ?_ _;rotate_left;(omega))|(refine bl_more ?_ ?_ _ _;rotate_left;(simp only[sZ]<;>omega))))⟩
    | false=>
     have HW:=Lib.hid (show wrongE y=false by unfold wrongE;simp[c2])
     clear c1
     go_wp2_with (first|((with_reducible refine gAl 85 ?_);refine alloc_row (enC enZ) zero85 rfl rfl ?_;try simp only[Act.put,xA,xB,xC,fR])|((with_reducible refine gD (Op.store 85 _ _) ?_);apply store_row row85 rfl _ _ rfl _ (enC _) rfl rfl (enC_size _) (enC_ones _) (t:=85) (old:=enC _) (h2:=enC_size _);(·(repeat((refine heap_at _ _ _ ?_;(with_reducible rfl)))));try simp only[Act.put,xA,xB,xC,fR];try simp (disch:=(first|with_reducible rfl|fail)) only[more_row,alloc_row_past,alloc_row_at,drew_row,drewN_row])|(go_at_call 52;refine(kind_any _ _ _ _ _ _).mono ?_;rintro r w1 ⟨rfl,hb⟩;obtain⟨ow,kw,rfl⟩:=more_of hb;clear hb)|((with_reducible refine gL 85 10 ?_);refine take_el row85 rfl _ rfl g (off+k*17) rfl y (enC_size y) HC.out ?_;try simp only[Act.put,xA,xB,xC,fR]))
     go_roundw
     case rel=>exact⟨k+1,by omega,by go_num,Lib.hid (wrong_next L k y HY.out HW.out _ HG.out),by(repeat(first|assumption|(refine Below.alloc ?_ ?_ _;rotate_left;(omega))|(refine bl_more ?_ ?_ _ _;rotate_left;(simp only[sZ]<;>omega))))⟩
     case measure=>simp[intOf];omega
   ·have d1:(kd y.i.op== 5)=false:=by rw[beq_eq_false_iff_ne];exact c1
    have HW:=Lib.hid (show wrongE y=false by unfold wrongE;simp[c1])
    clear c1
    go_wp2_with (first|((with_reducible refine gAl 85 ?_);refine alloc_row (enC enZ) zero85 rfl rfl ?_;try simp only[Act.put,xA,xB,xC,fR])|((with_reducible refine gD (Op.store 85 _ _) ?_);apply store_row row85 rfl _ _ rfl _ (enC _) rfl rfl (enC_size _) (enC_ones _) (t:=85) (old:=enC _) (h2:=enC_size _);(·(repeat((refine heap_at _ _ _ ?_;(with_reducible rfl)))));try simp only[Act.put,xA,xB,xC,fR];try simp (disch:=(first|with_reducible rfl|fail)) only[more_row,alloc_row_past,alloc_row_at,drew_row,drewN_row])|(go_at_call 52;refine(kind_any _ _ _ _ _ _).mono ?_;rintro r w1 ⟨rfl,hb⟩;obtain⟨ow,kw,rfl⟩:=more_of hb;clear hb)|((with_reducible refine gL 85 10 ?_);refine take_el row85 rfl _ rfl g (off+k*17) rfl y (enC_size y) HC.out ?_;try simp only[Act.put,xA,xB,xC,fR]))
    go_roundw
    case rel=>exact⟨k+1,by omega,by go_num,Lib.hid (wrong_next L k y HY.out HW.out _ HG.out),by(repeat(first|assumption|(refine Below.alloc ?_ ?_ _;rotate_left;(omega))|(refine bl_more ?_ ?_ _ _;rotate_left;(simp only[sZ]<;>omega))))⟩
    case measure=>simp[intOf];omega
  ·have hkn:k=n:=by omega
   subst hkn
   go_wp2
   go_ret
   exact⟨ret_i (wrong_nil L k HL.out.len _ HG.out).symm,HB⟩
theorem front_weak(A:Option Addr)(n C:Nat)(L:List En)(w:World)(hL:Sl enC 17 w A n L):Calls Tryz.prog 132 #[.slice A n C] w (Numb w):=by
 have hn:=hL.few
 have HL:=Lib.hid hL
 clear hL
 go_enter Tryz.func132,Tryz.ntmps132
 go_wp2
 go_loopw [7] (fun i wr=>∃(k:Nat),k≤n∧i= .int .i64 k∧Below w.heap.size w wr) (fun i _=>n-(intOf i).toNat)
 case atStart=>exact⟨0,by omega,rfl,Below.refl _ _⟩
 case round=>
  obtain⟨k,hk,rfl,HB⟩:=hrel
  have hBs:=HB.size
  by_cases hlt:k<n
  ·obtain⟨g,off,y,rfl,hg,hy,hc⟩:=(HL.out.below HB).at_ hlt
   have HC:=Lib.hid hc
   clear hy hc
   go_wp2_with (first|((with_reducible refine gAl 85 ?_);refine alloc_row (enC enZ) zero85 rfl rfl ?_;try simp only[Act.put,xA,xB,xC,fR])|((with_reducible refine gD (Op.store 85 _ _) ?_);apply store_row row85 rfl _ _ rfl _ (enC _) rfl rfl (enC_size _) (enC_ones _) (t:=85) (old:=enC _) (h2:=enC_size _);(·(repeat((refine heap_at _ _ _ ?_;(with_reducible rfl)))));try simp only[Act.put,xA,xB,xC,fR];try simp (disch:=(first|with_reducible rfl|fail)) only[more_row,alloc_row_past,alloc_row_at,drew_row,drewN_row])|((with_reducible refine gL 85 10 ?_);refine take_el row85 rfl _ rfl g (off+k*17) rfl y (enC_size y) HC.out ?_;try simp only[Act.put,xA,xB,xC,fR])|((with_reducible refine gD (Op.load 85 _) ?_);apply take_row row85 rfl _ rfl _ rfl (enC _) (enC_size _) (t:=85) (fr:=(0,0));(·(repeat((refine heap_at _ _ _ ?_;(with_reducible rfl)))));try simp only[Act.put,xA,xB,xC,fR])|(go_at_call 147;refine(safe_any _ _).mono ?_;rintro r w1 ⟨⟨b,rfl⟩,hb⟩;obtain⟨ow,kw,rfl⟩:=more_of hb;clear hb))
   ·go_ret
    exact⟨⟨_,rfl⟩,by(repeat(first|assumption|(refine Below.alloc ?_ ?_ _;rotate_left;(omega))|(refine bl_more ?_ ?_ _ _;rotate_left;(simp only[sZ]<;>omega))))⟩
   ·go_roundw
    case rel=>exact⟨k+1,by omega,by go_num,by(repeat(first|assumption|(refine Below.alloc ?_ ?_ _;rotate_left;(omega))|(refine bl_more ?_ ?_ _ _;rotate_left;(simp only[sZ]<;>omega))))⟩
    case measure=>simp[intOf];omega
  ·have hkn:k=n:=by omega
   subst hkn
   go_wp2
   go_ret
   exact⟨⟨_,rfl⟩,HB⟩
theorem visible_weak(A:Option Addr)(n C:Nat)(L:List En)(i:Int)(w:World)(hL:Sl enC 17 w A n L):Calls Tryz.prog 118 #[.slice A n C,.int .i64 i] w (YesNo w):=by
 have hn:=hL.few
 have HL:=Lib.hid hL
 clear hL
 go_enter Tryz.func118,Tryz.ntmps118
 go_wp2_with (go_at_call 132;refine(front_weak A n C L _ HL.out).mono ?_;rintro r w1 ⟨⟨b,rfl⟩,hb⟩;obtain⟨ow,kw,rfl⟩:=more_of hb;clear hb)
 all_goals
  go_ret
  exact⟨⟨_,rfl⟩,by(repeat(first|exact Below.refl _ _|(refine bl_more ?_ ?_ _ _;rotate_left;(omega))))⟩
def SomeN(w:World)(e:Ending)(w':World):Prop:=∃(A:Option Addr) (n C:Nat) (M:List Int),e= .returned (.slice A n C)∧Sl i64C 1 w' A n M∧Wf A n C∧Below w.heap.size w w'
theorem needs_any(e:En)(w:World):Calls Tryz.prog 117 #[.agg (enC e)] w (SomeN w):=by
 have H:=Lo.start w
 go_enter Tryz.func117,Tryz.ntmps117
 go_wp2_with (first|((with_reducible refine gBx 85 0 ?_);refine st_Lbox rfl _ H _ rfl rfl ?_;clear H;intro w1 b1 H;go_frame)|((with_reducible refine gL 83 6 ?_);refine st_Lllr rfl row83 H _ rfl _ 2 rfl _ _ mm0 (inC _) rfl (sub_inst _) ?_;go_frame)|((with_reducible refine gL 83 11 ?_);refine st_Lllr rfl row83 H _ rfl _ 2 rfl _ _ mm0 (inC _) rfl (sub_inst _) ?_;go_frame)|(go_at_call 52;refine(kind_any _ _ _ _ _ _).mono ?_;rintro r w1 ⟨rfl,hb⟩;replace H:=H.below hb)|(go_at_call 53;refine(reads_any _ _ _ _ _ _).mono ?_;rintro r w1 ⟨rfl,hb⟩;replace H:=H.below hb))
 ·go_ret
  exact⟨_,_,_,[e.i.r1],rfl,Sl.new (t:=3) (fr:=(0,0)) i64C_size (heap_at _ _ _ rfl) (by simp),⟨(fun h=>by cases h),Nat.le_refl _,by show 1≤_;omega⟩,H.bl.alloc H.bl.size _⟩
 ·go_ret
  exact⟨_,_,_,[e.i.r1],rfl,Sl.new (t:=3) (fr:=(0,0)) i64C_size (heap_at _ _ _ rfl) (by simp),⟨(fun h=>by cases h),Nat.le_refl _,by show 1≤_;omega⟩,H.bl.alloc H.bl.size _⟩
 ·go_ret
  exact⟨_,_,_,[e.i.r1,e.i.r2],rfl,Sl.new (t:=3) (fr:=(0,0)) i64C_size (heap_at _ _ _ rfl) (by simp),⟨(fun h=>by cases h),Nat.le_refl _,by show 2≤_;omega⟩,H.bl.alloc H.bl.size _⟩
theorem of_any(A:Option Addr)(n C:Nat)(L:List En)(B:Option Addr)(m Cm:Nat)(M:List Int)(reg:Int)(bA bB:Nat)(w:World)(hL:Sl enC 17 w A n L)(hM:Sl i64C 1 w B m M)(hm:m≤n)(ha:w.cell? ⟨bA,0,none⟩=some (.slice A n C))(hb:w.cell? ⟨bB,0,none⟩=some (.slice B m Cm))(hbl:bB<w.heap.size):Calls Tryz.prog 146 #[.int .i64 (m:Int),.int .i64 reg,.pointer (some ⟨bA,0,none⟩),.pointer (some ⟨bB,0,none⟩)] w (Numb w):=by
 have H:=Lo.start w
 have hn:=hL.few
 have hl:=hL.len
 have HL:=Lib.hid hL
 have HB:=Lib.hid hb
 have MK:=Lib.hid (fun W h=>maker_any A n C L m reg W h hm)
 rcases makerE_bd L m (by omega) reg with hk|⟨k,hk,hkm⟩
 rw[hk]at MK
 clear hk hL hM hb
 rotate_left
 rw[hk]at MK
 obtain⟨g,off,y,rfl,hg,hy,hc⟩:=hM.at_ hkm
 have c0:w.cell? ⟨g,off+k,none⟩=some (.int .i64 y):=by have:=hc 0 (.int .i64 y) rfl;simpa using this
 have C0:=Lib.hid c0
 have HG:=Lib.hid hg
 have b1:(0:Int)≤(k:Int):=by omega
 have b2:(k:Int)<(m:Int):=by omega
 clear hk hL hM hb hy hc c0 hg
 rotate_left
 all_goals
  go_enter Tryz.func146,Tryz.ntmps146
  go_wp2_with (first|(go_at_call 87;refine(MK.out _ (HL.out.below H.bl)).mono ?_;rintro r w1 ⟨rfl,hb⟩;replace H:=H.below hb)|((with_reducible refine gL 22 3 ?_);refine st_lone rfl one22 _ rfl ⟨bB,0,none⟩ rfl _ ((H.bl.cell (p:=⟨bB,0,none⟩) hbl).trans HB.out) ?_;try simp only[Act.put,xA,xB,xC,fR])|((with_reducible refine gL 3 16 ?_);refine st_lone rfl one3 _ rfl ⟨g,off+k,none⟩ rfl _ ((H.bl.cell (p:=⟨g,_,none⟩) HG.out).trans C0.out) ?_;try simp only[Act.put,xA,xB,xC,fR]))
  go_ret
  exact⟨⟨_,rfl⟩,H.bl⟩
def RootsP(n:Nat)(w:World)(e:Ending)(w':World):Prop:=∃(A:Option Addr) (C:Nat) (M:List Int),e= .returned (.slice A n C)∧Sl i64C 1 w' A n M∧Below w.heap.size w w'
theorem Lo.grown{ws w w':World}{l:List Lc}{row:Option Nat}(H:Lo ws w l)(hg:w.grownBy w' row)(hr:∀ r,row=some r→ws.heap.size≤r∧∀ x∈l,x.1≠r):Lo ws w' l:=
 ⟨H.bl.grown hg H.bl.size (fun k hk=>(hr k hk).1),fun x hx=>⟨(hg.block x.1 (Array.getElem?_eq_some_iff.1 (H.lc x hx).1).1 (fun e=>(hr x.1 e.symm).2 x hx rfl)).trans (H.lc x hx).1,(H.lc x hx).2⟩,H.nd⟩
theorem ow_apart{α:Type}{lay:α→Array Value}{k:Nat}{ws w:World}{l:List Lc}{b:Nat}{e:TypeId}{v:Value}{L:List α}(H:Lo ws w l)(ho:Ow lay k w b e v L)(he:∀ x∈l,x.2.2≠e)(hb:ws.heap.size≤b):∀ r,v.ownBlock=some r→ws.heap.size≤r∧∀ x∈l,x.1≠r:=fun r hr=>by
 obtain⟨⟨_,h2⟩,_⟩:=ho
 rcases h2 with⟨q,_⟩|⟨gg,cap,cur,q1,q2,q3,_⟩
 ·subst q;cases hr
 ·subst q1
  simp only[Value.ownBlock,Option.some.injEq]at hr
  subst hr
  refine⟨by omega,fun x hx e2=>?_⟩
  have h3:=(H.lc x hx).1
  rw[e2]at h3
  rw[h3]at q3
  simp only[Option.some.injEq,Obj.cells.injEq]at q3
  exact he x hx q3.2.1
theorem Lo.app{α:Type}{lay:α→Array Value}{k:Nat}{ws w w':World}{l:List Lc}{b:Nat}{e:TypeId}{v:Value}{L:List α}{o:Obj}(H:Lo ws w l)(ho:Ow lay k w b e v L)(g:(w.alloc o).grownBy w' v.ownBlock)(he:∀ x∈l,x.2.2≠e)(hb:ws.heap.size≤b):Lo ws w' l:=
 (H.below ((Below.refl _ w).alloc (Nat.le_refl _) o)).grown g (ow_apart (H.below ((Below.refl _ w).alloc (Nat.le_refl _) o)) (ho.below ((Below.refl _ w).alloc (Nat.le_refl _) o)) he hb)
theorem ow_off{α:Type}{lay:α→Array Value}{k:Nat}{w w':World}{b g:Nat}{e:TypeId}{v:Value}{L:List α}(ho:Ow lay k w b e v L)(hne:∀ r,v.ownBlock=some r→g≠r)(hf:Off g w w'):Ow lay k w' b e v L:=ho.same fun r hr=>hf.heap r (fun e=>hne r hr e.symm)
theorem roots_any(A:Option Addr)(n C:Nat)(L:List En)(w:World)(hL:Sl enC 17 w A n L):Calls Tryz.prog 131 #[.slice A n C] w (RootsP n w):=by
 have hn:=hL.few
 have HL:=Lib.hid hL
 have H:=Lo.start w
 have hw0:w.heap.size≤w.heap.size:=Nat.le_refl _
 clear hL
 go_enter Tryz.func131,Tryz.ntmps131
 go_wp2_with (first|(go_at_call 132;refine(front_weak A n C L _ (HL.out.below H.bl)).mono ?_;rintro r w1 ⟨⟨fr,rfl⟩,hb⟩;replace H:=H.below hb)|((with_reducible refine gD (Op.makeSlice 22 _ _) ?_);refine make_sl (α:=Int) (lay:=i64C) slT22 rfl _ _ rfl w.heap.size .i64 .i64 n n rfl rfl rfl hn H.bl.size ?_;intro v1 w1 h1 g1;replace H:=H.grown g1 (fun r hr=>by cases hr);have HO:=Lib.hid h1;obtain⟨A1,C1,rfl,f1,f2,f3⟩:=h1.sl2 i64C_size;clear h1 g1 f1 f2 f3;try simp only[Act.put,xA,xB,xC,fR])|((with_reducible refine gAl 22 ?_);refine st_Lal1 rfl (.slice none 0 0) rfl zero22 H rfl ?_;clear H;intro w1 b4 hlt1 hb1 H;have HO1:=HO.out.below hb1;clear HO;have HO:=HO1;clear HO1;try simp only[Act.put,xA,xB,xC,fR])|((with_reducible refine gS 22 4 ?_);refine st_LslI rfl cel22 0 _ _ _ H rfl _ _ rfl 0 rfl _ rfl rfl rfl (Nat.le_of_ble_eq_true rfl) _ (one_sl _ _ _ _) rfl ?_;intro w1 ho1 H1;try simp only[xB,xC]at H1;have HO1:=ow_off HO (fun r hr=>(ow_apart H HO (by intro x hx;simp at hx;rcases hx with rfl|rfl<;>simp) (Nat.le_refl _) r hr).2 _ mm0) ho1;clear HO;have HO:=HO1;clear HO1 H;have H:=H1;clear H1;try simp only[Act.put,xA,xB,xC,fR])|((with_reducible refine gBx 31 0 ?_);refine st_Lbox1 rfl (.slice _ _ _) H _ rfl rfl rfl ?_;clear H;intro w1 b1 hlt1 hb1 H;go_frame)|((with_reducible refine gL 31 1 ?_);refine st_Lll1 rfl one31 H _ rfl _ 0 rfl _ _ mm0 (.slice _ _ _) rfl ?_;go_frame)|((with_reducible refine gL 31 1 ?_);refine st_Lll1 rfl one31 H _ rfl _ 0 rfl _ _ mm1 (.slice _ _ _) rfl ?_;go_frame))
 go_loopw [19] (fun s wr=>∃(k:Nat),k≤n∧s= .int .i64 (k:Int)∧∃(A1:Option Addr) (C1:Nat) (M:List Int),M.length=k∧Ow i64C 1 wr w.heap.size 3 (.slice A1 k C1) M∧Lo w wr [(b4,#[.slice A1 k C1],22),(b1,#[.slice A n C],31)]) (fun s _=>n-(intOf s).toNat)
 case atStart=>exact⟨0,by omega,rfl,A1,C1,[],rfl,HO,H⟩
 case round=>
  clear H HO
  obtain⟨k,hk,rfl,A2,C2,M,hM,HO,H⟩:=hrel
  by_cases hlt:k<n
  ·obtain⟨g,off,y,rfl,hg,hy,hc⟩:=HL.out.at_ hlt
   have HC:=Lib.hid hc
   have HG:=Lib.hid hg
   have HK:=Lib.hid hlt
   have HHM:=Lib.hid hM
   obtain⟨f1,f2,f3⟩:=HO.slv i64C_size
   have HF1:=Lib.hid f1
   have HOO:=Lib.hid HO
   clear hy hc hg hM f1 f2 f3 HO
   go_wp2_with (first|((with_reducible refine gL 85 22 ?_);refine st_lrow rfl row85 _ rfl g (off+k*17) rfl (enC y) rfl (fun j v hv=>(H.bl.cell (p:=⟨g,_,none⟩) HG.out).trans (HC.out j v hv)) ?_;try simp only[Act.put,xA,xB,xC,fR])|((with_reducible refine gAl 85 ?_);refine st_Lal rfl (enC enZ) zero85 H rfl ?_;clear H;intro w1 b7 hlt1 hb1 H;go_frame)|((with_reducible refine gS 85 7 ?_);refine st_Lslw rfl cel85 _ _ _ H _ _ rfl rfl _ rfl rfl rfl rfl ?_;clear H;intro w1 ho1 H;go_frame)|((with_reducible refine gL 83 24 ?_);refine st_Lllr rfl row83 H _ rfl _ 2 rfl _ _ mm0 (inC _) rfl (sub_inst _) ?_;go_frame))
   have HR:Below wr.heap.size wr w1:=Off.below ho1 hb1 hlt1
   clear ho1 hb1 hlt1
   go_wp2_with (first|(go_at_call 52;refine(kind_any _ _ _ _ _ _).mono ?_;rintro r w1 ⟨rfl,hb⟩;have R1:=HR.trans (hb.mono HR.size);clear HR;have HR:=R1;clear R1;have H1:=H.below hb;clear hb;clear H;have H:=H1;clear H1)|(go_at_call 53;refine(reads_any _ _ _ _ _ _).mono ?_;rintro r w1 ⟨rfl,hb⟩;have R1:=HR.trans (hb.mono HR.size);clear HR;have HR:=R1;clear R1;have H1:=H.below hb;clear hb;clear H;have H:=H1;clear H1)|(go_at_call 146;refine(of_any (some ⟨g,off,none⟩) n C L _ k C2 M _ b1 b4 _ (HL.out.below H.bl) (HF1.out.below HR) (Nat.le_of_lt HK.out) (H.lcell (b:=b1) (cs:=#[.slice (some ⟨g,off,none⟩) n C]) (T:=31) (by simp) 0) (H.lcell (b:=b4) (cs:=#[.slice A2 k C2]) (T:=22) (by simp) 0) (H.lt (b:=b4) (cs:=#[.slice A2 k C2]) (T:=22) (by simp))).mono ?_;rintro r w1 ⟨⟨ox,rfl⟩,hb⟩;have R1:=HR.trans (hb.mono HR.size);clear HR;have HR:=R1;clear R1;have H1:=H.below hb;clear hb;clear H;have H:=H1;clear H1)|(at_builtin;(refine app_sl slT22 i64C_size i64C_ones rfl _ _ rfl w.heap.size (.slice A2 k C2) M rfl ((HOO.out.below HR).below ((Below.refl _ _).alloc (Nat.le_refl _) _)) (some ⟨w1.heap.size,0,none⟩) 1 1 [_] rfl (Sl.new (t:=3) (fr:=(0,0)) i64C_size (heap_alloc_new _ _) (by simp)) (fun h=>by cases h) (by have:=HHM.out;have:=HK.out;omega) (by have:=H.bl.size;simp only[World.size_alloc];omega) ?_);intro v2 w2 h2 g2;(have H1:=Lo.app H (HOO.out.below HR) g2 (by intro x hx;simp at hx;rcases hx with rfl|rfl|rfl<;>simp) (Nat.le_refl _));clear H;have H:=H1;clear H1;obtain⟨A3,C3,e3,q1,q2,q3⟩:=h2.sl2 i64C_size;rw[List.length_append,List.length_singleton,HHM.out]at e3;subst e3;have HN:=Lib.hid (fun r hr=>(ow_apart H h2 (by intro x hx;simp at hx;rcases hx with rfl|rfl|rfl<;>simp) (Nat.le_refl _) r hr).2 (b4,#[.slice A2 k C2],22) (by simp));have HO2:=Lib.hid h2;clear h2 g2 q1 q2 q3;try simp only[Act.put,xA,xB,xC,fR])|((with_reducible refine gS 22 4 ?_);refine st_LslI rfl cel22 1 _ _ _ H rfl _ _ rfl 0 rfl _ rfl rfl rfl (Nat.le_of_ble_eq_true rfl) _ (one_sl _ _ _ _) rfl ?_;intro w1 ho1 H1;try simp only[xB,xC]at H1;have HO3:=Lib.hid (ow_off HO2.out HN.out ho1);clear H;have H:=H1;clear H1;try simp only[Act.put,xA,xB,xC,fR])|((with_reducible refine gL 83 29 ?_);refine st_Lllr rfl row83 H _ rfl _ 2 rfl _ _ mm0 (inC _) rfl (sub_inst _) ?_;go_frame)|((with_reducible refine gL 22 4 ?_);refine st_Lll1 rfl one22 H _ rfl _ 0 rfl _ _ mm1 (.slice _ _ _) rfl ?_;go_frame))
   all_goals
    go_roundw
    case rel=>exact⟨_,_,_,_,_,_,⟨k+1,HK.out,rfl,A3,C3,_,by rw[List.length_append,HHM.out];rfl,HO3.out,H.drop⟩,rfl,rfl,rfl,rfl,rfl,rfl⟩
    case measure=>have:=HK.out;simp[intOf];omega
  ·obtain rfl:k=n:=by omega
   go_wp2_with (((with_reducible refine gL 22 4 ?_);refine st_Lll1 rfl one22 H _ rfl _ 0 rfl _ _ mm0 (.slice _ _ _) rfl ?_;go_frame))
   go_ret
   exact⟨A2,C2,M,rfl,(HO.slv i64C_size).1,H.bl⟩
theorem tainted_any(A:Option Addr)(n C:Nat)(L:List En)(m:Nat)(reg:Int)(w:World)(hL:Sl enC 17 w A n L)(hm:m≤n):Calls Tryz.prog 116 #[.slice A n C,.int .i64 (m:Int),.int .i64 reg] w (YesNo w):=by
 have H:=Lo.start w
 have hn:=hL.few
 have hl:=hL.len
 have HL:=Lib.hid hL
 have MK:=Lib.hid (fun W h=>maker_any A n C L m reg W h hm)
 rcases makerE_bd L m (by omega) reg with hk|⟨k,hk,hkm⟩
 ·rw[hk]at MK
  clear hk hL
  go_enter Tryz.func116,Tryz.ntmps116
  go_wp2_with ((go_at_call 87;refine(MK.out _ (HL.out.below H.bl)).mono ?_;rintro r w1 ⟨rfl,hb⟩;replace H:=H.below hb))
  go_ret
  exact⟨⟨_,rfl⟩,H.bl⟩
 ·rw[hk]at MK
  have b1:(0:Int)≤(k:Int):=by omega
  have b2:(k:Int)<(n:Int):=by omega
  have hkn:k<n:=by omega
  clear hk hL
  go_enter Tryz.func116,Tryz.ntmps116
  go_wp2_with (first|(go_at_call 87;refine(MK.out _ (HL.out.below H.bl)).mono ?_;rintro r w1 ⟨rfl,hb⟩;replace H:=H.below hb)|(go_at_call 131;refine(roots_any A n C L _ (HL.out.below H.bl)).mono ?_;rintro r w1 ⟨A2,C2,M,rfl,hM,hb⟩;replace H:=H.below hb;obtain⟨g,off,y,rfl,hg,hy,hc⟩:=hM.at_ hkn;have c0:w1.cell? ⟨g,off+k,none⟩=some (.int .i64 y):=(by have:=hc 0 (.int .i64 y) rfl;simpa using this);clear hM hg hy hc hb)|fail)
  all_goals
   go_ret
   exact⟨⟨_,rfl⟩,H.bl⟩
theorem cleang_any(A:Option Addr)(n C:Nat)(L:List En)(m:Nat)(reg:Int)(bA bI:Nat)(w:World)(hL:Sl enC 17 w A n L)(hm:m≤n)(ha:w.cell? ⟨bA,0,none⟩=some (.slice A n C))(hi:w.cell? ⟨bI,0,none⟩=some (.int .i64 (m:Int))):Calls Tryz.prog 115 #[.int .i64 reg,.pointer (some ⟨bA,0,none⟩),.pointer (some ⟨bI,0,none⟩)] w (YesNo w):=by
 have H:=Lo.start w
 have HL:=Lib.hid hL
 clear hL
 go_enter Tryz.func115,Tryz.ntmps115
 go_wp2_with ((go_at_call 116;refine(tainted_any A n C L m reg _ (HL.out.below H.bl) hm).mono ?_;rintro r w1 ⟨⟨yn,rfl⟩,hb⟩;replace H:=H.below hb))
 all_goals
  go_ret
  exact⟨⟨_,rfl⟩,H.bl⟩
theorem may_any(mode:Int)(A:Option Addr)(n C:Nat)(L:List En)(m:Nat)(w:World)(hL:Sl enC 17 w A n L)(hm:m<n):Calls Tryz.prog 93 #[.int .i64 mode,.slice A n C,.int .i64 (m:Int)] w (YesNo w):=by
 have H:=Lo.start w
 have hn:=hL.few
 have hl:=hL.len
 obtain⟨g,off,y,rfl,hg,hy,hc⟩:=hL.at_ hm
 have HC:=Lib.hid hc
 have HG:=Lib.hid hg
 have HL:=Lib.hid hL
 have q1:decide ((m:Int)<0)=false:=decide_eq_false (by omega)
 have q2:decide (n≤m)=false:=decide_eq_false (by omega)
 have q3:(0:Int)≤(m:Int):=by omega
 have q4:(m:Int)<(n:Int):=by omega
 clear hL hy hc hg
 go_enter Tryz.func93,Tryz.ntmps93
 go_wp2_with (first|((with_reducible refine gL 85 20 ?_);refine st_lrow rfl row85 _ rfl g (off+m*17) rfl (enC y) rfl (fun j v hv=>(H.bl.cell (p:=⟨g,_,none⟩) HG.out).trans (HC.out j v hv)) ?_;try simp only[Act.put,xA,xB,xC,fR])|((with_reducible refine gL 85 32 ?_);refine st_lrow rfl row85 _ rfl g (off+m*17) rfl (enC y) rfl (fun j v hv=>(H.bl.cell (p:=⟨g,_,none⟩) HG.out).trans (HC.out j v hv)) ?_;try simp only[Act.put,xA,xB,xC,fR])|(go_at_call 114;refine(tells_any y _).mono ?_;rintro r w1 ⟨⟨yn,rfl⟩,hb⟩;replace H:=H.below hb)|(go_at_call 118;refine(visible_weak _ n C L m _ (HL.out.below H.bl)).mono ?_;rintro r w1 ⟨⟨yn2,rfl⟩,hb⟩;replace H:=H.below hb)|(go_at_call 117;refine(needs_any y _).mono ?_;rintro r w1 ⟨A2,n2,C2,M,rfl,hM,hW2,hb⟩;have HM:=Lib.hid hM;have hn2:=hM.few;clear hM hW2;replace H:=H.below hb)|((with_reducible refine gBx 31 1 ?_);refine st_Lbox1 rfl (.slice _ _ _) H _ rfl rfl rfl ?_;clear H;intro w1 b4 hlt1 hb1 H;go_frame)|((with_reducible refine gBx 3 2 ?_);refine st_Lbox1 rfl (.int .i64 _) H _ rfl rfl rfl ?_;clear H;intro w1 b5 hlt1 hb1 H;go_frame)|((with_reducible refine gL 3 5 ?_);refine st_Lll1 rfl one3 H _ rfl _ 0 rfl _ _ mm0 (.int .i64 _) rfl ?_;go_frame)|((with_reducible refine gL 3 5 ?_);refine sTj rfl ?_;refine wp_Lll1 one3 H _ rfl _ 0 rfl _ _ mm0 (.int .i64 _) rfl ?_;go_frame)|((with_reducible refine gL 31 4 ?_);refine sTj rfl ?_;refine wp_Lll1 one31 H _ rfl _ 0 rfl _ _ mm1 (.slice _ _ _) rfl ?_;go_frame))
 all_goals first|(go_ret;exact⟨⟨_,rfl⟩,H.bl⟩)|skip
 go_loopw [36] (fun s wr=>∃(k:Nat),k≤n2∧s= .int .i64 (k:Int)∧Lo w wr [(b5,#[.int .i64 (m:Int)],3),(b4,#[.slice (some ⟨g,off,none⟩) n C],31)]∧Sl i64C 1 wr A2 n2 M) (fun s _=>n2-(intOf s).toNat)
 case atStart=>exact⟨0,by omega,rfl,H,HM.out⟩
 case round=>
  clear H HM
  obtain⟨k,hk,rfl,H,hM⟩:=hrel
  by_cases hlt:k<n2
  ·obtain⟨g2,off2,y2,rfl,hg2,hy2,hc2⟩:=hM.at_ hlt
   have c0:wr.cell? ⟨g2,off2+k,none⟩=some (.int .i64 y2):=by have:=hc2 0 (.int .i64 y2) rfl;simpa using this
   have HM:=Lib.hid hM
   have HK:=Lib.hid hlt
   clear hM hg2 hy2 hc2
   go_wp2_with (first|(go_at_call 115;refine(cleang_any (some ⟨g,off,none⟩) n C L m y2 b4 b5 _ (HL.out.below H.bl) (Nat.le_of_lt hm) (H.lcell (b:=b4) (cs:=#[.slice (some ⟨g,off,none⟩) n C]) (T:=31) (by simp) 0) (H.lcell (b:=b5) (cs:=#[.int .i64 (m:Int)]) (T:=3) (by simp) 0)).mono ?_;rintro r w1 ⟨⟨yn3,rfl⟩,hb⟩;replace H:=H.below hb;have HM1:=Lib.hid (HM.out.below hb);clear HM;have HM:=HM1;clear HM1)|fail)
   ·go_ret
    exact⟨⟨_,rfl⟩,H.bl⟩
   ·go_roundw
    case rel=>exact⟨k+1,HK.out,by go_num,H,HM.out⟩
    case measure=>have:=HK.out;simp[intOf];omega
  ·obtain rfl:k=n2:=by omega
   go_wp2_with fail
   go_ret
   exact⟨⟨_,rfl⟩,H.bl⟩
end Go.Proofs.YtdmhfogegfmnfaaGreatDoor
