/- Contracts: the lines of a processor that ran for a while are as they should be. Conditions: the slices read as lists, the table of codes is as laid. A shape that came in, opened: its numbers, and its slices that read as lists. No conditions. -/
import Derived.Test.YtdmhfogegfmnfaaGreatDoorTie
import Derived.Test.YtdmhfogegfmnfaaGreatDoorCards
import Derived.Test.YtdmhfogegfmnfaaGreatDoorB01
import Derived.Test.YtdmhfogegfmnfaaGreatDoorB04
import Derived.Test.YtdmhfogegfmnfaaGreatDoorB16
import Derived.Test.YtdmhfogegfmnfaaGreatDoorB33
import Derived.SevenTiedAt
import Derived.ProofKit
import Derived.LaidMore
import Derived.OpenShut
import Derived.ChangeOld
import Derived.Stop.Joined
import Derived.Lib.LaidTab
import Derived.ChangeMaps5
import Derived.Deep.Fields
set_option maxRecDepth 100000
set_option maxHeartbeats 8000000
set_option linter.unusedVariables false
set_option linter.unusedSimpArgs false
namespace Go.Proofs.YtdmhfogegfmnfaaGreatDoor
open Go.RowKit
theorem corDrop{X:Nat→Prop}{c:Co}{s:Ss}{w:World}{l:List Lc}{x:Lc}(h:CoR (Xl X (x::l)) w c s):CoR (Xl X l) w c s:=h.mono fun j h2 _=>⟨h2.1,fun y hy=>h2.2 y (List.mem_cons_of_mem _ hy)⟩
theorem lines_m(w0 w:World)(f:Cf)(l t:Sv)(A:Option Addr)(n C:Nat)(pr:List U)(m:By)(k:Int)(hT:TabC w0)(hB:Below w0.heap.size w0 w)(h1:CfIn w f l t)(hP:Sl u32C 1 w A (min n 64) pr)(hW:Wf A n C):Calls Tryz.prog 3 #[.agg (cfC f l t),.slice A n C,.string (bs m),.int .i64 k] w fun e w'=>e= .returned (.bool true)∧Below w.heap.size w w':=by
 have H:=Lo.start w
 have HT:=Lib.hid hT
 have HB:=Lib.hid hB
 have H1:=Lib.hid h1
 have HP:=Lib.hid hP
 have HWf:=Lib.hid hW
 have HWf2:=Lib.hid (show Wf A (min n 64) C from⟨hW.nil,Nat.le_trans (Nat.min_le_left ..) hW.le,hW.few⟩)
 obtain⟨K,hK,hK2⟩:∃ K:Nat,min (max k 0) 200=(K:Int)∧K≤200:=⟨(min (max k 0) 200).toNat,by omega,by omega⟩
 obtain⟨me,hme⟩:∃ me,m.take 300=me:=⟨_,rfl⟩
 obtain⟨c0,hc0⟩:∃ c0,newCo f pr me=c0:=⟨_,rfl⟩
 have HI0:=Lib.hid (show Inv c0 by rw[← hc0];exact new_inv f pr me)
 have HC0:=Lib.hid (show c0.bus=[]∧c0.retired=[]∧c0.mem.length≤256 by rw[← hc0];exact⟨rfl,rfl,cleanM_len _⟩)
 clear hT hB h1 hP hW
 go_enter Tryz.func3,Tryz.ntmps3
 go_wp2_with (first|(go_at_call 5;refine(short_any A n C m _ HWf.out).mono ?_;unfold ShortP;rw[hme];rintro r1 w1 ⟨rfl,hb⟩;have H1':=H.below hb;clear H;have H:=H1';clear H1')|(go_at_call 6;refine(new_core (Xl (fun _=>True) _) f l t A (min n 64) C pr me _ (H.xl_new fun _ _=>trivial) (H1.out.below H.bl) (HP.out.below H.bl) HWf2.out).mono ?_;unfold NewCP;rw[hc0];rintro r1 w1 ⟨s1,rfl,FC,hb⟩;have H1':=H.below hb;clear H;have H:=H1';clear H1')|((with_reducible refine gAl 42 ?_);refine st_Lal rfl (coC coZ ssZ) zero42 H rfl ?_;intro wC b9 hlt hbl HC;have FC':=corAl (coC coZ ssZ) 42 FC hlt hbl;clear FC H hlt hbl;have H:=HC;have FC:=FC';clear HC FC';try simp only[Act.put,xA,xB,xC,fR])|((with_reducible refine gD (Op.store 42 (.tmp 9) (.tmp 26)) ?_);refine st_Lslw rfl cel42 _ _ _ H _ _ rfl rfl _ rfl (coC_size _ _) (coC_ones _ _) (coC_size _ _) ?_;intro wC ho HC;have FC':=corOff FC ho ⟨_,List.mem_cons_self ..,rfl⟩;clear FC H ho;have H:=HC;have FC:=FC';clear HC FC';try simp only[Act.put,xA,xB,xC,fR])|((with_reducible refine gBx 25 0 ?_);refine st_Lbox rfl _ H _ rfl rfl ?_;clear H;intro w1 b1 H;go_frame)|((with_reducible refine gL 25 4 ?_);refine st_Lllr rfl row25 H _ rfl _ 0 rfl _ 25 mm0 _ rfl (Sub.all _) ?_;go_frame))
 clear HI0
 have HI0:=Lib.hid (show Inv c0 by rw[← hc0];exact new_inv f pr me)
 clear hc0
 go_loopw [30] (fun i wr=>∃(j:Nat) (x:Co) (sx:Ss),j≤K∧i= .int .i64 (j:Int)∧Hid (RunsTo c0 j x)∧CoR (Xl (fun _=>True) [(b9,coC x sx,42),(b1,cfC f l t,25)]) wr x sx∧Lo w wr [(b9,coC x sx,42),(b1,cfC f l t,25)]) (fun i _=>K-(intOf i).toNat)
 case atStart=>exact⟨0,_,s1,Nat.zero_le _,rfl,Lib.hid rfl,corIds FC rfl,H⟩
 case round=>
  clear H FC
  obtain⟨j,x,sx,hj,rfl,HR,FC,H⟩:=hrel
  by_cases hlt:j<K
  ·have z1:=HR.out.sz
   have XB:=Lib.hid (show x.bus.length≤700000∧x.retired.length≤700000 from⟨by have:=z1.bus;rw[HC0.out.1]at this;simp only[List.length_nil]at this;omega,by have:=z1.retired;rw[HC0.out.2.1]at this;simp only[List.length_nil]at this;omega⟩)
   clear z1
   go_wp2_with (first|(go_at_call 7;refine(step_m w0 _ (Xl (fun _=>True) _) x sx HT.out ((HB.out).trans (H.bl.mono HB.out.size)) (H.nx HB.out.size (fun j q=>absurd trivial q)) FC (HR.out.inv HI0.out) XB.out.1 XB.out.2).mono ?_;unfold StepP;rintro r1 w1 ⟨x2,s2,rfl,hst,FC2,hb⟩;have HR2:=Lib.hid (show RunsTo c0 (j+1) x2 from⟨x,HR.out,hst⟩);have DW:∃ y,dirtyC x2.words=(y,false):=⟨_,Prod.ext rfl (dirtyn (HR2.out.inv HI0.out).wr (HR2.out.inv HI0.out).wd)⟩;obtain⟨y0,hy0⟩:=DW;have HY0:=Lib.hid hy0;have BM:=Lib.hid (show(belowM x2.bus x2.mem).length≤1000000 by rw[below_len];have:=HR2.out.sz.mem;have:=HC0.out.2.2;omega);have XM:=Lib.hid (show x2.mem.length≤1000000 by have:=HR2.out.sz.mem;have:=HC0.out.2.2;omega);have R1:=Lib.hid (rightC_iff.2 (HR2.out.inv HI0.out).rc);have R2:=Lib.hid (rightC_iff.2 (HR2.out.inv HI0.out).wr);clear hy0 hst FC;have FC:=FC2;clear FC2;have H1':=H.below hb;clear H;have H:=H1';clear H1')|((with_reducible refine gD (Op.store 42 (.tmp 9) (.tmp 33)) ?_);refine st_Lslw rfl cel42 _ _ _ H _ _ rfl rfl _ rfl (coC_size _ _) (coC_ones _ _) (coC_size _ _) ?_;intro wC ho HC;have FC':=corOff FC ho ⟨_,List.mem_cons_self ..,rfl⟩;clear FC H ho;have H:=HC;have FC:=FC';clear HC FC';try simp only[Act.put,xA,xB,xC,fR])|(go_at_call 8;refine(dirty_any s2.words x2.words _ FC.words.toR).mono ?_;unfold DirP;rw[HY0.out];rintro r1 w1 ⟨rfl,hb⟩;have FC':=FC.below hb;clear FC;have FC:=FC';clear FC';have H1':=H.below hb;clear H;have H:=H1';clear H1')|((with_reducible refine gAl 46 ?_);refine st_Lal rfl (wyC wyZ) zero46 H rfl ?_;intro wC b10 hlt hbl HC;have FC':=corAl (wyC wyZ) 46 FC hlt hbl;clear FC H hlt hbl;have H:=HC;have FC:=FC';clear HC FC';try simp only[Act.put,xA,xB,xC,fR])|((with_reducible refine gD (Op.store 46 (.tmp 10) (.tmp 38)) ?_);refine st_Lslw rfl cel46 _ _ _ H _ _ rfl rfl _ rfl (wyC_size _) (wyC_ones _) (wyC_size _) ?_;intro wC ho HC;have FC':=corOff FC ho ⟨_,List.mem_cons_self ..,rfl⟩;clear FC H ho;have H:=HC;have FC:=FC';clear HC FC';try simp only[Act.put,xA,xB,xC,fR])|(go_at_call 9;with_reducible show Calls _ _ #[.agg #[.int .i64 x2.data.ways,.slice s2.data.a s2.data.n s2.data.c]] _ _;refine(cright_any s2.data x2.data _ FC.data.toR).mono ?_;rw[R1.out];rintro r1 w1 ⟨rfl,hb⟩;have FC':=FC.below hb;clear FC;have FC:=FC';clear FC';have H1':=H.below hb;clear H;have H:=H1';clear H1')|(go_at_call 9;with_reducible show Calls _ _ #[.agg #[.int .i64 x2.words.ways,.slice s2.words.a s2.words.n s2.words.c]] _ _;refine(cright_any s2.words x2.words _ FC.words.toR).mono ?_;rw[R2.out];rintro r1 w1 ⟨rfl,hb⟩;have FC':=FC.below hb;clear FC;have FC:=FC';clear FC';have H1':=H.below hb;clear H;have H:=H1';clear H1')|(go_at_call 10;refine(rbelow_any s2.bus.a s2.bus.n s2.bus.c x2.bus x2.mem XM.out _ FC.bus.sl).mono ?_;rintro r1 w1 ⟨rfl,hb⟩;have FC':=FC.below hb;clear FC;have FC:=FC';clear FC';have H1':=H.below hb;clear H;have H:=H1';clear H1')|((with_reducible refine gL 42 9 ?_);refine st_Lllr rfl row42 H _ rfl _ 0 rfl _ 42 mm0 _ rfl (Sub.all _) ?_;go_frame)|((with_reducible refine gL 35 35 ?_);refine st_Lllr rfl row35 H _ rfl _ 53 rfl _ 42 mm0 _ rfl (sub_words _ _) ?_;go_frame)|((with_reducible refine gL 35 42 ?_);refine sTj rfl ?_;refine wp_Lllr row35 H _ rfl _ 51 rfl _ 42 mm1 _ rfl (sub_data _ _) ?_;go_frame)|((with_reducible refine gL 35 48 ?_);refine sTj rfl ?_;refine wp_Lllr row35 H _ rfl _ 53 rfl _ 42 mm1 _ rfl (sub_words _ _) ?_;go_frame)|((with_reducible refine gL 36 53 ?_);refine st_Lll1 rfl one36 H _ rfl _ 55 rfl _ 42 mm1 _ (coC_55 _ _) ?_;go_frame)|((with_reducible refine gL 9 55 ?_);refine st_Lll1 rfl one9 H _ rfl _ 58 rfl _ 42 mm1 _ (coC_58 _ _) ?_;go_frame)|((with_reducible refine gL 33 59 ?_);refine st_Lll1 rfl one33 H _ rfl _ 52 rfl _ 42 mm1 _ (coC_52 _ _) ?_;go_frame))
   have HDa:=Lib.hid FC.data.toR
   have hsn:=HDa.out.few
   rename World=>wo
   have HO:=Lib.hid H
   have FCO:=Lib.hid FC
   have HN:=Lib.hid (Lo.start wo)
   clear H FC
   have H:=HN.out
   clear HN
   obtain⟨sa,hsa⟩:∃ sa,s2.data.a=sa:=⟨_,rfl⟩
   rw[hsa]
   have HSA:=Lib.hid hsa
   clear hsa
   go_loopw [62] (fun i wr=>∃(q:Nat),q≤s2.data.n∧i= .int .i64 (q:Int)∧Lo wo wr []) (fun i _=>s2.data.n-(intOf i).toNat)
   case atStart=>exact⟨0,Nat.zero_le _,rfl,H⟩
   case round=>
    clear H
    obtain⟨q,hq,rfl,H⟩:=hrel
    by_cases hqs:q<s2.data.n
    ·obtain⟨g,off,⟨ta,tn,tc⟩,L,e0,hg,hLk,hcell,hSl,hWf⟩:=(HDa.out.below H.bl).at_ hqs
     simp only at e0 hcell hSl hWf
     have e1:=HSA.out.symm.trans e0
     subst e1
     clear e0
     have htn:=hSl.few
     have HLL:=Lib.hid hSl.len
     have HSl:=Lib.hid hSl
     have HLk:=Lib.hid hLk
     clear hSl hLk hWf
     go_wp2
     rename World=>w3
     have HO2:=Lib.hid H
     have HN:=Lib.hid (Lo.start w3)
     clear H
     have H:=HN.out
     clear HN
     go_loopw [68] (fun i w2=>∃(r:Nat),r≤tn∧i= .int .i64 (r:Int)∧Lo w3 w2 []) (fun i _=>tn-(intOf i).toNat)
     case atStart=>exact⟨0,Nat.zero_le _,rfl,H⟩
     case round=>
      clear H
      obtain⟨r,hr,rfl,H⟩:=hrel
      by_cases hrt:r<tn
      ·obtain⟨g2,off2,y,e2,hg2,hy,hcy⟩:=(HSl.out.below H.bl).at_ hrt
       subst e2
       have HC2:=Lib.hid hcy
       have LN:=(HR2.out.inv HI0.out).ln y ⟨q,L,HLk.out,List.mem_of_getElem? hy⟩
       have hy16:(y.data.length:Int)=16:=by have:=LN.2.1;omega
       have hbs:=bs_size y.data
       have HCl:=Lib.hid LN.2.2
       clear hy hcy LN
       cases hd:y.dirty with
       | true=>
        go_wp2_with (first|((with_reducible refine gL 46 70 ?_);refine take_el row46 rfl _ rfl g2 (off2+r*3) rfl y (wyC_size y) HC2.out ?_;try simp only[Act.put,xA,xB,xC,fR])|((with_reducible refine gAl 46 ?_);refine st_Lal rfl (wyC wyZ) zero46 H rfl ?_;intro wC b16 hlt hbl HC;clear H hlt hbl;have H:=HC;clear HC;try simp only[Act.put,xA,xB,xC,fR])|((with_reducible refine gD (Op.store 46 (.tmp 16) (.tmp 71)) ?_);refine st_Lslw rfl cel46 _ _ _ H _ _ rfl rfl _ rfl (wyC_size _) (wyC_ones _) (wyC_size _) ?_;intro wC ho HC;clear H ho;have H:=HC;clear HC;try simp only[Act.put,xA,xB,xC,fR]))
        go_wp2_with fail
        refine beginL 17 (l0:=zz18) H (by kernel_rfl) ?_ (by kernel_rfl);clear H;intro H
        refine tP 0 72 H ?_;go_frame
        refine tC 1 73 rfl (by kernel_rfl) iQ (by(exact yields_one one9 rfl _ rfl _ rfl _ (fun w h=>(h.lcell mm0 2).trans (wyC_2 _)))) H ?_;go_frame
        iterate 4 refine rP H ?_;go_frame
        refine tC 6 78 rfl (by kernel_rfl) iQ (by(first|(exact yieldsG_one (by rfl) one4 _ rfl _ rfl _ (fun w h=>(h.lcell mm0 1).trans (wyC_1 _)))|fail)) H ?_;go_frame
        iterate 2 refine rP H ?_;go_frame
        refine tU 9 81 H ?_;go_frame
        refine tU 10 82 H ?_;go_frame
        refine tU 11 83 H ?_;go_frame
        refine tU 12 84 H ?_;go_frame
        refine tU 13 85 H ?_;go_frame
        refine o1C 14 86 (fun K hK=>?_)
        refine shutG (by rfl) ?_
        refine hK.out _ _ (fun _=>H) ?_;clear hK K;go_frame
        refine tU 15 87 H ?_;go_frame
        refine tP 16 88 H ?_;go_frame
        refine o1C 17 89 (fun K hK=>?_)
        refine step_v rfl (v:=?vr1_17) ?hyr1_17 ?restr1_17
        case hyr1_17=>(go_simp;try(with_reducible rfl))
        refine hK.out _ _ (aB rfl) ?_;clear hK K;go_frame
        refine dnC ?_ _
        go_wp2
        go_roundw
        all_goals first
         | exact⟨r+1,by omega,by go_num,H.drop⟩|(simp[intOf];omega)
       | false=>
        have HE:=Lib.hid (HCl.out hd)
        go_wp2_with (first|((with_reducible refine gL 46 70 ?_);refine take_el row46 rfl _ rfl g2 (off2+r*3) rfl y (wyC_size y) HC2.out ?_;try simp only[Act.put,xA,xB,xC,fR])|((with_reducible refine gAl 46 ?_);refine st_Lal rfl (wyC wyZ) zero46 H rfl ?_;intro wC b16 hlt hbl HC;clear H hlt hbl;have H:=HC;clear HC;try simp only[Act.put,xA,xB,xC,fR])|((with_reducible refine gD (Op.store 46 (.tmp 16) (.tmp 71)) ?_);refine st_Lslw rfl cel46 _ _ _ H _ _ rfl rfl _ rfl (wyC_size _) (wyC_ones _) (wyC_size _) ?_;intro wC ho HC;clear H ho;have H:=HC;clear HC;try simp only[Act.put,xA,xB,xC,fR]))
        go_wp2_with fail
        refine beginL 17 (l0:=zz18) H (by kernel_rfl) ?_ (by kernel_rfl);clear H;intro H
        refine tP 0 72 H ?_;go_frame
        refine tC 1 73 rfl (by kernel_rfl) iQ (by(exact yields_one one9 rfl _ rfl _ rfl _ (fun w h=>(h.lcell mm0 2).trans (wyC_2 _)))) H ?_;go_frame
        iterate 4 refine rP H ?_;go_frame
        refine tC 6 78 rfl (by kernel_rfl) iQ (by(first|(exact yieldsG_one (by rfl) one4 _ rfl _ rfl _ (fun w h=>(h.lcell mm0 1).trans (wyC_1 _)))|fail)) H ?_;go_frame
        iterate 3 refine rP H ?_;go_frame
        refine tC 10 82 rfl (by kernel_rfl) iQ (by(first|(exact yieldsG_one (by rfl) one9 _ rfl _ rfl _ (fun w h=>(h.lcell mm0 2).trans (wyC_2 _)))|fail)) H ?_;go_frame
        iterate 2 refine rP H ?_;go_frame
        refine tC 13 85 rfl (by kernel_rfl) iQ (by(first|(exact yieldsG_one (by rfl) one28 _ rfl _ rfl _ (fun w h=>(h.lcell mm0 0).trans (wyC_0 _)))|fail)) H ?_;go_frame
        refine o1C 14 86 (fun K hK=>?_)
        refine openG (by rfl) (wp_fn _ _ _ (rcut_any (belowM x2.bus x2.mem) y.line BM.out _) (by go_simp<;>rfl) ?_);rw[← HE.out];rintro r1 w1 ⟨rfl,hb⟩;refine⟨_,rfl,?_⟩;have H1':=H.below hb;clear H;have H:=H1';clear H1'
        refine hK.out _ _ (fun _=>H) ?_;clear hK K;go_frame
        iterate 2 refine rP H ?_;go_frame
        refine o1C 17 89 (fun K hK=>?_)
        refine step_v rfl (v:=?vr2_17) ?hyr2_17 ?restr2_17
        case hyr2_17=>(go_simp;try(with_reducible rfl))
        refine hK.out _ _ (aB rfl) ?_;clear hK K;go_frame
        refine dnC ?_ _
        go_wp2
        go_roundw
        all_goals first
         | exact⟨r+1,by omega,by go_num,H.drop⟩|(simp[intOf];omega)
      ·have hrn:r=tn:=by omega
       subst hrn
       go_wp2
       go_roundw
       all_goals first
        | exact⟨q+1,by omega,by go_num,HO2.out.below H.bl⟩|(simp[intOf];omega)
    ·have hqn:q=s2.data.n:=by omega
     subst hqn
     have H1':=HO.out.below H.bl
     have FC:=FCO.out.below H.bl
     clear H
     have H:=H1'
     clear H1'
     go_wp2
     go_roundw
     all_goals first
      | exact⟨j+1,x2,s2,by omega,by go_num,HR2,corIds (corDrop FC) rfl,H.drop⟩|(simp[intOf];omega)
  ·have hjn:j=K:=by omega
   go_wp2_with ((go_at_call 12;refine(alive_m w0 _ HT.out (HB.out.trans (H.bl.mono HB.out.size))).mono ?_;rintro r1 w1 ⟨rfl,hb⟩;have H1':=H.below hb;clear H;have H:=H1';clear H1'))
   go_ret
   exact⟨rfl,H.bl⟩
section
open Go.ChangeShapes Go.WideShapes Go.ChangeAt Go.RowKit Go.Deep
theorem open_cells{H:Type}{enc:TypeId×Value→H}{P:Program}{w:World}{base:Nat}{spare:Nat→Bool}{held:Bool}{r:Reach}{b0:Nat}{t:TypeId}{fs:Array Field}{v:Value}{d:DataW H}{p:List MemPlace}
 (hs:P.underlying t=some (.struct fs)) (hone:oneCellFields P fs=true) (hC:P.cellsOf t=fs.size)
 (hv:Value.okWide P w r b0 t v) (h:DataW.Trod enc P w base spare held t v d p):
 ∃ cs:Array Value,v= .agg cs∧cs.size=fs.size∧∀(j:Nat) (f:Field),fs[j]?=some f→∃ c x n,cs[j]?=some c∧DataW.trod enc P w base spare held n f.type [c]=some x:=by
 obtain⟨cs,rfl,hsz⟩:=okWide_struct hs hv
 refine⟨cs,rfl,hsz.trans hC,fun j f hj=>?_⟩
 obtain⟨fuel,hf⟩:=h
 obtain⟨xs,n,_,_,_,hlen,hg⟩:=DataW.trod_struct hs hf
 obtain⟨ho,hk⟩:=hone_of hone j f hj
 have hjl:j<fs.size:=(Array.getElem?_eq_some_iff.1 hj).1
 have hg:=hg j f hj
 rw[ho,hk]at hg
 have hc:cs[j]?=some (cs[j]'(by omega)):=Array.getElem?_eq_getElem (by omega)
 have hx:xs[j]?=some (xs[j]'(by omega)):=List.getElem?_eq_getElem (by omega)
 have e:(((Value.agg cs).cells.toList).drop j).take 1=[cs[j]'(by omega)]:=by
  have:(Value.agg cs).cells=cs:=by simp[Value.cells]
  rw[this,List.drop_eq_getElem_cons (by simp;omega)]
  simp
 rw[e,hx]at hg
 exact⟨_,_,n,hc,hg⟩
theorem open_sl{H:Type}{enc:TypeId×Value→H}{w:World}{base:Nat}{spare:Nat→Bool}{held:Bool}{t e:TypeId}{k:IntKind}{c:Value}{x:DataW H×List MemPlace}{n:Nat}
 (h1:Tryz.prog.underlying t=some (.slice e)) (h2:Tryz.prog.underlying e=some (.int k)) (h3:Tryz.prog.cellsOf e=1) (hf:DataW.trod enc Tryz.prog w base spare held n t [c]=some x):
 ∃(A:Option Addr) (l C:Nat) (L:List Int),c= .slice A l C∧L.length=l∧l≤C∧C≤9223372036854775807∧Cnf.Sl w k A L∧(A=none→C=0)∧(∀ x∈L,(Lit.int k x).wf=true):=by
 rcases open_ints h1 h2 h3 hf with⟨hcs,_⟩|⟨a,l,C,zs,hcs,_,hl,hm,hz,_,hcell,hwz⟩
 ·simp at hcs
  subst hcs
  exact⟨none,0,0,[],rfl,rfl,by omega,by omega,Cnf.Sl.none_ _ _ _,fun _=>rfl,fun x hx=>by cases hx⟩
 ·simp at hcs
  subst hcs
  have hz':l≤zs.length:=by
   by_cases hs:spare a.block=true
   ·simp[hs]at hz;omega
   ·simp[hs]at hz;omega
  refine⟨some a,l,C,zs.take l,rfl,by simp;omega,hl,by unfold maxLen at hm;omega,fun hn=>?_,fun h=>(by cases h),fun x hx=>hwz x (List.mem_of_mem_take hx)⟩
  have hl0:0<l:=by simp at hn;omega
  obtain⟨b,off,rfl,hc⟩:=ints_at hcell (by omega)
  have h0:=hc 0 (by omega)
  refine⟨b,off,rfl,World.block_lt_of_cell? w _ h0,fun j hj=>?_⟩
  have hjl:j<l:=by simp at hj;omega
  rw[hc j (by omega)]
  simp[List.getD_eq_getElem?_getD,hjl]
theorem mapU{T:List Int}(h:∀ x∈T,(Lit.int .u32 x).wf=true):(T.map U.of).map (·.v)=T:=by
 rw[List.map_map]
 conv=>rhs;rw[← List.map_id T]
 refine List.map_congr_left fun x hx=>?_
 have:=bounds_u32 (h x hx)
 show x % 4294967296=x
 omega
theorem open_conf{H:Type}{enc:TypeId×Value→H}{w:World}{base b0:Nat}{spare:Nat→Bool}{held:Bool}{r:Reach}{v:Value}{d:DataW H}{p:List MemPlace}
 (hv:Value.okWide Tryz.prog w r b0 25 v) (h:DataW.Trod enc Tryz.prog w base spare held 25 v d p):
 ∃(f:Cf) (l t:Sv),v= .agg (cfC f l t)∧CfIn w f l t:=by
 obtain⟨⟨l⟩,rfl,hsz,hf⟩:=open_cells Tryz.underlying25 (by kernel_rfl) (by kernel_rfl) hv h
 match l,hsz with
 | [c0,c1,c2,c3,c4,c5,c6,c7,c8,c9,c10],_=>
  obtain⟨_,_,_,e0,t0⟩:=hf 0 _ rfl
  obtain⟨_,_,_,e1,t1⟩:=hf 1 _ rfl
  obtain⟨_,_,_,e2,t2⟩:=hf 2 _ rfl
  obtain⟨_,_,_,e3,t3⟩:=hf 3 _ rfl
  obtain⟨_,_,_,e4,t4⟩:=hf 4 _ rfl
  obtain⟨_,_,_,e5,t5⟩:=hf 5 _ rfl
  obtain⟨_,_,_,e6,t6⟩:=hf 6 _ rfl
  obtain⟨_,_,_,e7,t7⟩:=hf 7 _ rfl
  obtain⟨_,_,_,e8,t8⟩:=hf 8 _ rfl
  obtain⟨_,_,_,e9,t9⟩:=hf 9 _ rfl
  obtain⟨_,_,_,e10,t10⟩:=hf 10 _ rfl
  simp at e0 e1 e2 e3 e4 e5 e6 e7 e8 e9 e10
  subst e0 e1 e2 e3 e4 e5 e6 e7 e8 e9 e10
  obtain⟨m,g0,_,_⟩:=DataW.trod_int Tryz.underlying3 t0
  obtain⟨wd,g1,_,_⟩:=DataW.trod_int Tryz.underlying3 t1
  obtain⟨ro,g2,_,_⟩:=DataW.trod_int Tryz.underlying3 t2
  obtain⟨qu,g3,_,_⟩:=DataW.trod_int Tryz.underlying3 t3
  obtain⟨st,g4,_,_⟩:=DataW.trod_int Tryz.underlying3 t4
  obtain⟨sl,g5,_,_⟩:=DataW.trod_int Tryz.underlying3 t5
  obtain⟨se,g6,_,_⟩:=DataW.trod_int Tryz.underlying3 t6
  obtain⟨wa,g7,_,_⟩:=DataW.trod_int Tryz.underlying3 t7
  obtain⟨A,n,C,L,rfl,l1,l2,l3,l4,_,_⟩:=open_sl Tryz.underlying22 Tryz.underlying3 (by kernel_rfl) t8
  obtain⟨tb,g9,_⟩:=DataW.trod_bool Tryz.underlying4 t9
  obtain⟨A2,n2,C2,T,rfl,m1,m2,m3,m4,_,m5⟩:=open_sl Tryz.underlying23 Tryz.underlying28 (by kernel_rfl) t10
  simp at g0 g1 g2 g3 g4 g5 g6 g7 g9
  subst g0 g1 g2 g3 g4 g5 g6 g7 g9
  have hT:=mapU m5
  exact⟨⟨m,wd,ro,qu,st,sl,se,wa,L,tb,T.map U.of⟩,⟨A,n,C⟩,⟨A2,n2,C2⟩,rfl,l1,by rw[hT];exact m1,by show n≤_;omega,by show n2≤_;omega,l4,by rw[hT];exact m4⟩
theorem open_prog{H:Type}{enc:TypeId×Value→H}{w:World}{base b0:Nat}{spare:Nat→Bool}{held:Bool}{r:Reach}{v:Value}{d:DataW H}{p:List MemPlace}
 (hv:Value.okWide Tryz.prog w r b0 23 v) (h:DataW.Trod enc Tryz.prog w base spare held 23 v d p):
 ∃(A:Option Addr) (n C:Nat) (pr:List U),v= .slice A n C∧Sl u32C 1 w A (min n 64) pr∧Wf A n C:=by
 obtain⟨a0,len,cap,rfl⟩:=okWide_slice Tryz.underlying23 hv
 obtain⟨fuel,hf⟩:=h
 obtain⟨A,n,C,L,e,l1,l2,l3,l4,l5,l6⟩:=open_sl Tryz.underlying23 Tryz.underlying28 (by kernel_rfl) (c:=.slice a0 len cap) hf
 have hT:=mapU l6
 refine⟨A,n,C,(L.take 64).map U.of,e,?_,l5,l2,l3⟩
 have hl:((L.take 64).map U.of).length=min n 64:=by simp;omega
 have:=ofCnfU (w:=w) (A:=A) (L:=(L.take 64).map U.of) (by
  rw[List.map_take,List.map_take,hT]
  intro h0
  have hh:(L.take 64).length≤L.length:=by rw[List.length_take];omega
  obtain⟨b,off,e1,e2,e3⟩:=l4 (by omega)
  refine⟨b,off,e1,e2,fun j hj=>?_⟩
  rw[e3 j (by omega)]
  have:j<64:=by rw[List.length_take]at hj;omega
  simp[List.getD_eq_getElem?_getD,this]) (by omega)
 rw[hl]at this
 exact this
theorem own:ownKnob Tryz.prog.godebug=none:=by kernel_rfl
theorem laidOut:laidOutB Tryz.prog=true:=by kernel_rfl
def laid1:List (String×DataW Unit):=[("auspex/inst.codes",Rows.laid_auspex_inst_codes)]
theorem gCodes:Tryz.prog.globalNamed "auspex/inst.codes" = some 0:=by kernel_rfl
theorem of_laid{W:World}(h:laidMetH Tryz.prog laid1 W):TabC W:=by
 rw[MakeChecks.laidMetH_plain _ _ _ (by kernel_rfl)]at h
 have h1:Lib.TabIs Tryz.prog W "auspex/inst.codes" .u32 codes:=Lib.tabIs_of_head (e:=28) (n:=49) gCodes (by kernel_rfl) Tryz.underlying192 Tryz.underlying28 (by kernel_rfl) (by kernel_rfl) h
 have hc:=fun j hj=>Lib.TabIs.cell h1 gCodes j hj
 exact⟨World.block_lt_of_cell? W _ (hc 0 (by decide)),fun j hj=>hc j hj⟩
theorem door_met(os:Os)(args:Array Value):laidMetH Tryz.prog laid1 ((World.doorLaid Tryz.prog 24 os).forCall (fun _ _=>0) ⟨#[],args,[]⟩).memory:=
 laidMetH_of_parts3 (fuel:=8) (laidMet_of_run' 8 (by kernel_rfl) (by kernel_rfl)) (by kernel_rfl) (by kernel_rfl)
end
end Go.Proofs.YtdmhfogegfmnfaaGreatDoor
