/- Contracts: whether a core may be. Conditions: its slices read as lists, the table of codes is laid. Contracts: entries behind one are taken out. Conditions: the entries read as a list, the one stands among them. Contracts: entries go on; those behind a wrong guess are taken out. Conditions: the machine is one. A slice without its first element: the operation, what it reads .. -/
import Derived.Test.YtdmhfogegfmnfaaGreatDoorG01
import Derived.Test.YtdmhfogegfmnfaaGreatDoorG04
import Derived.Test.YtdmhfogegfmnfaaGreatDoorG08
import Derived.Test.YtdmhfogegfmnfaaGreatDoorG10
import Derived.Test.YtdmhfogegfmnfaaGreatDoorG18
import Derived.Test.YtdmhfogegfmnfaaGreatDoorG19
import Derived.Test.YtdmhfogegfmnfaaGreatDoorG20
set_option maxRecDepth 100000
set_option maxHeartbeats 8000000
set_option linter.unusedVariables false
set_option linter.unusedSimpArgs false
namespace Go.Proofs.YtdmhfogegfmnfaaGreatDoor
open Go.RowKit
theorem bs_eq(a b:By):((bs a).toList==(bs b).toList)=decide (a=b):=by
 rw[ByteArray.toList_eq,ByteArray.toList_eq]
 show(a.toArray.toList== b.toArray.toList)=_
 rw[List.toList_toArray,List.toList_toArray]
 by_cases h:a=b
 ·subst h;simp
 ·simp[h]
theorem cleanM_len(m:By):(cleanM m).length≤256:=by
 unfold cleanM
 simp only[List.length_append,List.length_replicate]
 have:(m.take 256).length≤256:=by rw[List.length_take];omega
 split
 ·omega
 ·split
  ·omega
  ·split
   ·omega
   ·split<;>omega
theorem all_step{α:Type}{p:α→Bool}{L:List α}{k:Nat}{y:α}(h:(L.take k).all p=true)(hy:L[k]?=some y)(hp:p y=true):(L.take (k+1)).all p=true:=by
 rw[List.take_add_one,hy,List.all_append,h]
 simp[hp]
theorem all_not{α:Type}{p:α→Bool}{L:List α}{y:α}(hy:y∈L)(hp:p y=false):L.all p=false:=by
 rw[List.all_eq_false]
 exact⟨y,hy,by rw[hp];exact Bool.noConfusion⟩
theorem all_end{α:Type}{p:α→Bool}{L:List α}{k:Nat}(h:(L.take k).all p=true)(hk:L.length≤k):L.all p=true:=by rwa [List.take_of_length_le hk]at h
theorem coright_any(X:Nat→Prop)(c:Co)(s:Ss)(w:World)(hT:TabC w)(hR:CoR X w c s):Calls Tryz.prog 19 #[.agg (coC c s)] w fun e w'=>e= .returned (.bool (rightCo c))∧Below w.heap.size w w':=by
 have H:=Lo.start w
 have HT:=Lib.hid hT
 have HR:=Lib.hid hR
 have lp:=hR.prog.sl.len
 have lr:=hR.rob.sl.len
 have lf:=hR.fetched.sl.len
 have ls:=hR.stores.sl.len
 have E:=Lib.hid (show rightCo c=(rightF c.conf&&decide ((s.prog.n:Int)≤64)&&decide (c.mem=cleanM c.mem)&&rightR c.rob&&decide ((s.rob.n:Int)≤c.conf.rob)&&c.rob.all (fun e=>decide (e.no<c.next)) &&
  fitsC c.data c.conf&&fitsC c.words c.conf&&rightG c.guess&&decide ((s.fetched.n:Int)≤c.conf.queue)&&decide ((s.stores.n:Int)≤c.conf.stores) &&
  c.stores.all (fun p=>okAt c.mem.length p.addr p.data.length)) by unfold rightCo;rw[lp,lr,lf,ls];simp only[show(s.prog.n≤64)↔((s.prog.n:Int)≤64) by omega])
 have hms:=Lib.hid (bs_eq c.mem (cleanM c.mem))
 clear hT hR lp lr lf ls
 cases h1:rightF c.conf with
 | false=>
  have H1:=Lib.hid h1
  clear h1 hms
  go_enter Tryz.func19,Tryz.ntmps19
  go_wp2_with (((with_reducible refine gBx 42 0 ?_);refine st_Lbox rfl _ H _ rfl rfl ?_;clear H;intro w1 b1 H;go_frame))
  go_wp2_with fail
  refine beginL 17 (l0:=zz18) H (by kernel_rfl) ?_ (by kernel_rfl);clear H;intro H
  refine tP 0 7 H ?_;go_frame
  refine tC 1 8 rfl (by kernel_rfl) iQ (by(exact yields_row row25 rfl _ rfl _ _ rfl _ rfl (fun w h j v hj=>(h.lcell mm0 _).trans (sub_conf _ _ j v hj)))) H ?_;go_frame
  refine o1C 2 9 (fun K hK=>?_)
  refine step_fn rfl _ _ _ (cfright_co c.conf s.lat s.tape _ (HR.out.lat.sl.below H.bl) (HR.out.tape.sl.below H.bl)) (by go_simp<;>rfl) ?_;rw[H1.out];rintro r w1 ⟨rfl,hb⟩;refine⟨_,rfl,?_⟩;have H1':=H.below hb;clear H;have H:=H1';clear H1'
  refine hK.out _ _ (fun _=>H) ?_;clear hK K;go_frame
  iterate 2 refine rP H ?_;go_frame
  refine tU 5 12 H ?_;go_frame
  refine tU 6 13 H ?_;go_frame
  refine tU 7 14 H ?_;go_frame
  refine tU 8 15 H ?_;go_frame
  iterate 2 refine rP H ?_;go_frame
  refine tU 11 18 H ?_;go_frame
  refine tU 12 19 H ?_;go_frame
  refine tU 13 20 H ?_;go_frame
  refine tU 14 21 H ?_;go_frame
  refine o1C 15 22 (fun K hK=>?_)
  refine shutG (by rfl) ?_
  refine hK.out _ _ (fun _=>H) ?_;clear hK K;go_frame
  refine tU 16 23 H ?_;go_frame
  refine o1C 17 24 (fun K hK=>?_)
  refine step_v rfl (v:=?vr117) ?hyr117 ?restr117
  case hyr117=>(go_simp;try(with_reducible rfl))
  refine hK.out _ _ (aB rfl) ?_;clear hK K;go_frame
  refine dnC ?_ _
  go_wp2
  go_ret
  exact⟨by rw[E.out,H1.out];rfl,H.bl⟩
 | true=>
  have H1:=Lib.hid h1
  clear h1
  cases h2:decide ((64:Int)<(s.prog.n:Int))with
  | true=>
   have F2:=Lib.hid h2
   clear hms
   go_enter Tryz.func19,Tryz.ntmps19
   go_wp2_with (((with_reducible refine gBx 42 0 ?_);refine st_Lbox rfl _ H _ rfl rfl ?_;clear H;intro w1 b1 H;go_frame))
   go_wp2_with fail
   refine beginL 17 (l0:=zz18) H (by kernel_rfl) ?_ (by kernel_rfl);clear H;intro H
   refine tP 0 7 H ?_;go_frame
   refine tC 1 8 rfl (by kernel_rfl) iQ (by(exact yields_row row25 rfl _ rfl _ _ rfl _ rfl (fun w h j v hj=>(h.lcell mm0 _).trans (sub_conf _ _ j v hj)))) H ?_;go_frame
   refine o1C 2 9 (fun K hK=>?_)
   refine step_fn rfl _ _ _ (cfright_co c.conf s.lat s.tape _ (HR.out.lat.sl.below H.bl) (HR.out.tape.sl.below H.bl)) (by go_simp<;>rfl) ?_;rw[H1.out];rintro r w1 ⟨rfl,hb⟩;refine⟨_,rfl,?_⟩;have H1':=H.below hb;clear H;have H:=H1';clear H1'
   refine hK.out _ _ (fun _=>H) ?_;clear hK K;go_frame
   iterate 3 refine rP H ?_;go_frame
   refine tC 6 13 rfl (by kernel_rfl) iQ (by(first|(exact yieldsG_one (by rfl) one23 _ rfl _ rfl _ (fun w h=>(h.lcell mm0 11).trans (coC_11 _ _)))|fail)) H ?_;go_frame
   iterate 4 refine rP H ?_;go_frame
   refine tU 11 18 H ?_;go_frame
   refine tU 12 19 H ?_;go_frame
   refine tU 13 20 H ?_;go_frame
   refine tU 14 21 H ?_;go_frame
   refine o1C 15 22 (fun K hK=>?_)
   refine shutG (by rfl) ?_
   refine hK.out _ _ (fun _=>H) ?_;clear hK K;go_frame
   refine tU 16 23 H ?_;go_frame
   refine o1C 17 24 (fun K hK=>?_)
   refine step_v rfl (v:=?vr217) ?hyr217 ?restr217
   case hyr217=>(go_simp;try(with_reducible rfl))
   refine hK.out _ _ (aB rfl) ?_;clear hK K;go_frame
   refine dnC ?_ _
   go_wp2
   go_ret
   exact⟨by rw[E.out,decide_eq_false (show ¬ (s.prog.n:Int)≤64 by have:=of_decide_eq_true F2.out;omega)];simp,H.bl⟩
  | false=>
   have F2:=Lib.hid (show decide ((s.prog.n:Int)≤64)=true from decide_eq_true (by have:=of_decide_eq_false h2;omega))
   go_enter Tryz.func19,Tryz.ntmps19
   go_wp2_with (((with_reducible refine gBx 42 0 ?_);refine st_Lbox rfl _ H _ rfl rfl ?_;clear H;intro w1 b1 H;go_frame))
   go_wp2_with fail
   refine beginL 17 (l0:=zz18) H (by kernel_rfl) ?_ (by kernel_rfl);clear H;intro H
   refine tP 0 7 H ?_;go_frame
   refine tC 1 8 rfl (by kernel_rfl) iQ (by(exact yields_row row25 rfl _ rfl _ _ rfl _ rfl (fun w h j v hj=>(h.lcell mm0 _).trans (sub_conf _ _ j v hj)))) H ?_;go_frame
   refine o1C 2 9 (fun K hK=>?_)
   refine step_fn rfl _ _ _ (cfright_co c.conf s.lat s.tape _ (HR.out.lat.sl.below H.bl) (HR.out.tape.sl.below H.bl)) (by go_simp<;>rfl) ?_;rw[H1.out];rintro r w1 ⟨rfl,hb⟩;refine⟨_,rfl,?_⟩;have H1':=H.below hb;clear H;have H:=H1';clear H1'
   refine hK.out _ _ (fun _=>H) ?_;clear hK K;go_frame
   iterate 3 refine rP H ?_;go_frame
   refine tC 6 13 rfl (by kernel_rfl) iQ (by(first|(exact yieldsG_one (by rfl) one23 _ rfl _ rfl _ (fun w h=>(h.lcell mm0 11).trans (coC_11 _ _)))|fail)) H ?_;go_frame
   iterate 5 refine rP H ?_;go_frame
   refine tC 12 19 rfl (by kernel_rfl) iQ (by(first|(exact yieldsG_one (by rfl) one9 _ rfl _ rfl _ (fun w h=>(h.lcell mm0 58).trans (coC_58 _ _)))|fail)) H ?_;go_frame
   refine tP 13 20 H ?_;go_frame
   refine tC 14 21 rfl (by kernel_rfl) iQ (by(first|(exact yieldsG_one (by rfl) one9 _ rfl _ rfl _ (fun w h=>(h.lcell mm0 58).trans (coC_58 _ _)))|fail)) H ?_;go_frame
   refine o1C 15 22 (fun K hK=>?_)
   refine openG (by rfl) (wp_fn _ _ _ (clean_mem c.mem _) (by go_simp<;>rfl) ?_);rintro r w1 ⟨rfl,hb⟩;refine⟨_,rfl,?_⟩;have H1':=H.below hb;clear H;have H:=H1';clear H1'
   refine hK.out _ _ (fun _=>H) ?_;clear hK K;go_frame
   refine tP 16 23 H ?_;go_frame
   refine o1C 17 24 (fun K hK=>?_)
   refine step_v rfl (v:=?vr317) ?hyr317 ?restr317
   case hyr317=>(go_simp;try(with_reducible rfl))
   refine hK.out _ _ (aB rfl) ?_;clear hK K;go_frame
   refine dnC ?_ _
   cases h3:((bs c.mem).toList==(bs (cleanM c.mem)).toList)with
   | false=>
    have F3:=Lib.hid (hms.out.symm.trans h3)
    go_wp2
    go_ret
    exact⟨by rw[E.out,F3.out];simp,H.bl⟩
   | true=>
    have F3:=Lib.hid (hms.out.symm.trans h3)
    have HM:=Lib.hid (show(c.mem.length:Int)≤1000000 by rw[of_decide_eq_true F3.out];have:=cleanM_len c.mem;omega)
    clear hms
    cases h4:rightR c.rob with
    | false=>
     have F4:=Lib.hid h4
     go_wp2_with (first|((with_reducible refine gL 31 25 ?_);refine st_Lll1 rfl one31 H _ rfl _ 48 rfl _ 42 mm0 _ (coC_48 _ _) ?_;go_frame)|(go_at_call 36;refine(srights_any s.rob.a s.rob.n s.rob.c c.rob _ (HT.out.below H.bl) (HR.out.rob.sl.below H.bl)).mono ?_;rw[F4.out];rintro r w1 ⟨rfl,hb⟩;have H1':=H.below hb;clear H;have H:=H1';clear H1'))
     go_ret
     exact⟨by rw[E.out,F4.out];simp,H.bl⟩
    | true=>
     have F4:=Lib.hid h4
     clear h4 h3 h2
     cases h5:decide (c.conf.rob<(s.rob.n:Int))with
     | true=>
      go_wp2_with (first|((with_reducible refine gL 31 25 ?_);refine st_Lll1 rfl one31 H _ rfl _ 48 rfl _ 42 mm0 _ (coC_48 _ _) ?_;go_frame)|((with_reducible refine gL 31 30 ?_);refine sTj rfl ?_;refine wp_Lll1 one31 H _ rfl _ 48 rfl _ 42 mm0 _ (coC_48 _ _) ?_;go_frame)|((with_reducible refine gL 3 34 ?_);refine sTj rfl ?_;refine wp_Lll1 one3 H _ rfl _ 2 rfl _ 42 mm0 _ (coC_2 _ _) ?_;go_frame)|(go_at_call 36;refine(srights_any s.rob.a s.rob.n s.rob.c c.rob _ (HT.out.below H.bl) (HR.out.rob.sl.below H.bl)).mono ?_;rw[F4.out];rintro r w1 ⟨rfl,hb⟩;have H1':=H.below hb;clear H;have H:=H1';clear H1'))
      go_ret
      exact⟨by rw[E.out,decide_eq_false (show ¬ (s.rob.n:Int)≤c.conf.rob by have:=of_decide_eq_true h5;omega)];simp,H.bl⟩
     | false=>
      have F5:=Lib.hid (show decide ((s.rob.n:Int)≤c.conf.rob)=true from decide_eq_true (by have:=of_decide_eq_false h5;omega))
      go_wp2_with (first|((with_reducible refine gL 31 25 ?_);refine st_Lll1 rfl one31 H _ rfl _ 48 rfl _ 42 mm0 _ (coC_48 _ _) ?_;go_frame)|((with_reducible refine gL 31 30 ?_);refine sTj rfl ?_;refine wp_Lll1 one31 H _ rfl _ 48 rfl _ 42 mm0 _ (coC_48 _ _) ?_;go_frame)|((with_reducible refine gL 3 34 ?_);refine sTj rfl ?_;refine wp_Lll1 one3 H _ rfl _ 2 rfl _ 42 mm0 _ (coC_2 _ _) ?_;go_frame)|((with_reducible refine gL 31 38 ?_);refine st_Lll1 rfl one31 H _ rfl _ 48 rfl _ 42 mm0 _ (coC_48 _ _) ?_;go_frame)|(go_at_call 36;refine(srights_any s.rob.a s.rob.n s.rob.c c.rob _ (HT.out.below H.bl) (HR.out.rob.sl.below H.bl)).mono ?_;rw[F4.out];rintro r w1 ⟨rfl,hb⟩;have H1':=H.below hb;clear H;have H:=H1';clear H1'))
      go_loopw [41] (fun i wr=>∃(k:Nat),k≤s.rob.n∧i= .int .i64 (k:Int)∧Hid ((c.rob.take k).all (fun e=>decide (e.no<c.next))=true)∧Lo w wr [(b1,coC c s,42)]) (fun i _=>s.rob.n-(intOf i).toNat)
      case atStart=>exact⟨0,Nat.zero_le _,rfl,Lib.hid (by simp),H⟩
      case round=>
       clear H
       obtain⟨k,hk,rfl,HG,H⟩:=hrel
       have hfew:=HR.out.rob.sl.few
       by_cases hlt:k<s.rob.n
       ·obtain⟨gA,off,y,eA,hgA,hy,hc⟩:=(HR.out.rob.sl.below H.bl).at_ hlt
        have HA:=Lib.hid hc
        have HY:=Lib.hid hy
        clear hy hc
        cases hno:decide (c.next≤y.no)with
        | true=>
         go_wp2_with (first|((with_reducible refine gL 85 43 ?_);refine st_lrow rfl row85 _ rfl gA (off+k*17) rfl (enC y) rfl HA.out ?_;try simp only[Act.put,xA,xB,xC,fR])|((with_reducible refine gAl 85 ?_);refine st_Lal rfl (enC enZ) zero85 H rfl ?_;clear H;intro w1 b4 hlt1 hb1 H;go_frame)|((with_reducible refine gS 85 4 ?_);refine st_Lslw rfl cel85 _ _ _ H _ _ rfl rfl _ rfl rfl rfl rfl ?_;clear H;intro w1 ho1 H;go_frame)|((with_reducible refine gL 3 45 ?_);refine st_Lll1 rfl one3 H _ rfl _ 0 rfl _ 85 mm0 _ (enC_0 _) ?_;go_frame)|((with_reducible refine gL 3 47 ?_);refine st_Lll1 rfl one3 H _ rfl _ 49 rfl _ 42 mm1 _ (coC_49 _ _) ?_;go_frame))
         go_ret
         exact⟨by rw[E.out,all_not (List.mem_of_getElem? HY.out) (decide_eq_false (by have:=of_decide_eq_true hno;omega))];simp,H.bl⟩
        | false=>
         have HX:=Lib.hid (all_step (p:=fun e=>decide (e.no<c.next)) HG.out HY.out (decide_eq_true (by have:=of_decide_eq_false hno;omega)))
         go_wp2_with (first|((with_reducible refine gL 85 43 ?_);refine st_lrow rfl row85 _ rfl gA (off+k*17) rfl (enC y) rfl HA.out ?_;try simp only[Act.put,xA,xB,xC,fR])|((with_reducible refine gAl 85 ?_);refine st_Lal rfl (enC enZ) zero85 H rfl ?_;clear H;intro w1 b4 hlt1 hb1 H;go_frame)|((with_reducible refine gS 85 4 ?_);refine st_Lslw rfl cel85 _ _ _ H _ _ rfl rfl _ rfl rfl rfl rfl ?_;clear H;intro w1 ho1 H;go_frame)|((with_reducible refine gL 3 45 ?_);refine st_Lll1 rfl one3 H _ rfl _ 0 rfl _ 85 mm0 _ (enC_0 _) ?_;go_frame)|((with_reducible refine gL 3 47 ?_);refine st_Lll1 rfl one3 H _ rfl _ 49 rfl _ 42 mm1 _ (coC_49 _ _) ?_;go_frame))
         go_roundw
         all_goals first
          | exact⟨k+1,by omega,by go_num,HX,H.drop⟩|(simp[intOf];omega)
       ·have hkn:k=s.rob.n:=by omega
        have F6:=Lib.hid (all_end HG.out (by rw[HR.out.rob.sl.len];omega))
        subst hkn
        cases h7:fitsC c.data c.conf with
        | false=>
         have F7:=Lib.hid h7
         clear h7
         go_wp2_with (first|((with_reducible refine gL 35 51 ?_);refine st_Lllr rfl row35 H _ rfl _ 51 rfl _ 42 mm0 _ rfl (sub_data _ _) ?_;go_frame)|((with_reducible refine gL 25 53 ?_);refine st_Lllr rfl row25 H _ rfl _ 0 rfl _ 42 mm0 _ rfl (sub_conf _ _) ?_;go_frame)|(go_at_call 37;refine(fits_any s.data.a s.data.n s.data.c c.data c.conf s.lat s.tape _ (HR.out.data.toR.below H.bl)).mono ?_;rw[F7.out];rintro r w1 ⟨rfl,hb⟩;have H1':=H.below hb;clear H;have H:=H1';clear H1'))
         go_ret
         exact⟨by rw[E.out,F7.out];simp,H.bl⟩
        | true=>
         have F7:=Lib.hid h7
         clear h7
         cases h8:fitsC c.words c.conf with
         | false=>
          have F8:=Lib.hid h8
          clear h8
          go_wp2_with (first|((with_reducible refine gL 35 51 ?_);refine st_Lllr rfl row35 H _ rfl _ 51 rfl _ 42 mm0 _ rfl (sub_data _ _) ?_;go_frame)|((with_reducible refine gL 25 53 ?_);refine st_Lllr rfl row25 H _ rfl _ 0 rfl _ 42 mm0 _ rfl (sub_conf _ _) ?_;go_frame)|((with_reducible refine gL 35 58 ?_);refine sTj rfl ?_;refine wp_Lllr row35 H _ rfl _ 53 rfl _ 42 mm0 _ rfl (sub_words _ _) ?_;go_frame)|((with_reducible refine gL 25 60 ?_);refine sTj rfl ?_;refine wp_Lllr row25 H _ rfl _ 0 rfl _ 42 mm0 _ rfl (sub_conf _ _) ?_;go_frame)|(go_at_call 37;with_reducible show Calls Tryz.prog 37 #[.agg #[.int .i64 c.data.ways,.slice s.data.a _ _],_] _ _;(refine(fits_any s.data.a s.data.n s.data.c c.data c.conf s.lat s.tape _ (HR.out.data.toR.below H.bl)).mono ?_;rw[F7.out]);rintro r w1 ⟨rfl,hb⟩;have H1':=H.below hb;clear H;have H:=H1';clear H1')|(go_at_call 37;with_reducible show Calls Tryz.prog 37 #[.agg #[.int .i64 c.words.ways,.slice s.words.a _ _],_] _ _;(refine(fits_any s.words.a s.words.n s.words.c c.words c.conf s.lat s.tape _ (HR.out.words.toR.below H.bl)).mono ?_;rw[F8.out]);rintro r w1 ⟨rfl,hb⟩;have H1':=H.below hb;clear H;have H:=H1';clear H1'))
          go_ret
          exact⟨by rw[E.out,F8.out];simp,H.bl⟩
         | true=>
          have F8:=Lib.hid h8
          clear h8
          cases h9:rightG c.guess with
          | false=>
           have F9:=Lib.hid h9
           clear h9
           go_wp2_with (first|((with_reducible refine gL 35 51 ?_);refine st_Lllr rfl row35 H _ rfl _ 51 rfl _ 42 mm0 _ rfl (sub_data _ _) ?_;go_frame)|((with_reducible refine gL 25 53 ?_);refine st_Lllr rfl row25 H _ rfl _ 0 rfl _ 42 mm0 _ rfl (sub_conf _ _) ?_;go_frame)|((with_reducible refine gL 35 58 ?_);refine sTj rfl ?_;refine wp_Lllr row35 H _ rfl _ 53 rfl _ 42 mm0 _ rfl (sub_words _ _) ?_;go_frame)|((with_reducible refine gL 25 60 ?_);refine sTj rfl ?_;refine wp_Lllr row25 H _ rfl _ 0 rfl _ 42 mm0 _ rfl (sub_conf _ _) ?_;go_frame)|((with_reducible refine gL 39 66 ?_);refine sTj rfl ?_;refine wp_Lllr row39 H _ rfl _ 59 rfl _ 42 mm0 _ rfl (sub_guess _ _) ?_;go_frame)|(go_at_call 37;with_reducible show Calls Tryz.prog 37 #[.agg #[.int .i64 c.data.ways,.slice s.data.a _ _],_] _ _;(refine(fits_any s.data.a s.data.n s.data.c c.data c.conf s.lat s.tape _ (HR.out.data.toR.below H.bl)).mono ?_;rw[F7.out]);rintro r w1 ⟨rfl,hb⟩;have H1':=H.below hb;clear H;have H:=H1';clear H1')|(go_at_call 37;with_reducible show Calls Tryz.prog 37 #[.agg #[.int .i64 c.words.ways,.slice s.words.a _ _],_] _ _;(refine(fits_any s.words.a s.words.n s.words.c c.words c.conf s.lat s.tape _ (HR.out.words.toR.below H.bl)).mono ?_;rw[F8.out]);rintro r w1 ⟨rfl,hb⟩;have H1':=H.below hb;clear H;have H:=H1';clear H1')|(go_at_call 38;refine(rightg_any ⟨s.slots,c.guess.history,s.returns⟩ c.guess _ ⟨rfl,HR.out.slots.sl.below H.bl,HR.out.slots.wf,HR.out.returns.sl.below H.bl,HR.out.returns.wf⟩).mono ?_;rw[F9.out];rintro r w1 ⟨rfl,hb⟩;have H1':=H.below hb;clear H;have H:=H1';clear H1'))
           go_ret
           exact⟨by rw[E.out,F9.out];simp,H.bl⟩
          | true=>
           have F9:=Lib.hid h9
           clear h9
           cases h10:decide (c.conf.queue<(s.fetched.n:Int))with
           | true=>
            go_wp2_with (first|((with_reducible refine gL 35 51 ?_);refine st_Lllr rfl row35 H _ rfl _ 51 rfl _ 42 mm0 _ rfl (sub_data _ _) ?_;go_frame)|((with_reducible refine gL 25 53 ?_);refine st_Lllr rfl row25 H _ rfl _ 0 rfl _ 42 mm0 _ rfl (sub_conf _ _) ?_;go_frame)|((with_reducible refine gL 35 58 ?_);refine sTj rfl ?_;refine wp_Lllr row35 H _ rfl _ 53 rfl _ 42 mm0 _ rfl (sub_words _ _) ?_;go_frame)|((with_reducible refine gL 25 60 ?_);refine sTj rfl ?_;refine wp_Lllr row25 H _ rfl _ 0 rfl _ 42 mm0 _ rfl (sub_conf _ _) ?_;go_frame)|((with_reducible refine gL 39 66 ?_);refine sTj rfl ?_;refine wp_Lllr row39 H _ rfl _ 59 rfl _ 42 mm0 _ rfl (sub_guess _ _) ?_;go_frame)|((with_reducible refine gL 30 71 ?_);refine st_Lll1 rfl one30 H _ rfl _ 47 rfl _ 42 mm0 _ (coC_47 _ _) ?_;go_frame)|((with_reducible refine gL 3 75 ?_);refine st_Lll1 rfl one3 H _ rfl _ 3 rfl _ 42 mm0 _ (coC_3 _ _) ?_;go_frame)|(go_at_call 37;with_reducible show Calls Tryz.prog 37 #[.agg #[.int .i64 c.data.ways,.slice s.data.a _ _],_] _ _;(refine(fits_any s.data.a s.data.n s.data.c c.data c.conf s.lat s.tape _ (HR.out.data.toR.below H.bl)).mono ?_;rw[F7.out]);rintro r w1 ⟨rfl,hb⟩;have H1':=H.below hb;clear H;have H:=H1';clear H1')|(go_at_call 37;with_reducible show Calls Tryz.prog 37 #[.agg #[.int .i64 c.words.ways,.slice s.words.a _ _],_] _ _;(refine(fits_any s.words.a s.words.n s.words.c c.words c.conf s.lat s.tape _ (HR.out.words.toR.below H.bl)).mono ?_;rw[F8.out]);rintro r w1 ⟨rfl,hb⟩;have H1':=H.below hb;clear H;have H:=H1';clear H1')|(go_at_call 38;refine(rightg_any ⟨s.slots,c.guess.history,s.returns⟩ c.guess _ ⟨rfl,HR.out.slots.sl.below H.bl,HR.out.slots.wf,HR.out.returns.sl.below H.bl,HR.out.returns.wf⟩).mono ?_;rw[F9.out];rintro r w1 ⟨rfl,hb⟩;have H1':=H.below hb;clear H;have H:=H1';clear H1'))
            go_ret
            exact⟨by rw[E.out,decide_eq_false (show ¬ (s.fetched.n:Int)≤c.conf.queue by have:=of_decide_eq_true h10;omega)];simp,H.bl⟩
           | false=>
            have F10:=Lib.hid (show decide ((s.fetched.n:Int)≤c.conf.queue)=true from decide_eq_true (by have:=of_decide_eq_false h10;omega))
            cases h11:decide (c.conf.stores<(s.stores.n:Int))with
            | true=>
             go_wp2_with (first|((with_reducible refine gL 35 51 ?_);refine st_Lllr rfl row35 H _ rfl _ 51 rfl _ 42 mm0 _ rfl (sub_data _ _) ?_;go_frame)|((with_reducible refine gL 25 53 ?_);refine st_Lllr rfl row25 H _ rfl _ 0 rfl _ 42 mm0 _ rfl (sub_conf _ _) ?_;go_frame)|((with_reducible refine gL 35 58 ?_);refine sTj rfl ?_;refine wp_Lllr row35 H _ rfl _ 53 rfl _ 42 mm0 _ rfl (sub_words _ _) ?_;go_frame)|((with_reducible refine gL 25 60 ?_);refine sTj rfl ?_;refine wp_Lllr row25 H _ rfl _ 0 rfl _ 42 mm0 _ rfl (sub_conf _ _) ?_;go_frame)|((with_reducible refine gL 39 66 ?_);refine sTj rfl ?_;refine wp_Lllr row39 H _ rfl _ 59 rfl _ 42 mm0 _ rfl (sub_guess _ _) ?_;go_frame)|((with_reducible refine gL 30 71 ?_);refine st_Lll1 rfl one30 H _ rfl _ 47 rfl _ 42 mm0 _ (coC_47 _ _) ?_;go_frame)|((with_reducible refine gL 3 75 ?_);refine st_Lll1 rfl one3 H _ rfl _ 3 rfl _ 42 mm0 _ (coC_3 _ _) ?_;go_frame)|((with_reducible refine gL 32 79 ?_);refine sTj rfl ?_;refine wp_Lll1 one32 H _ rfl _ 50 rfl _ 42 mm0 _ (coC_50 _ _) ?_;go_frame)|((with_reducible refine gL 3 83 ?_);refine sTj rfl ?_;refine wp_Lll1 one3 H _ rfl _ 4 rfl _ 42 mm0 _ (coC_4 _ _) ?_;go_frame)|(go_at_call 37;with_reducible show Calls Tryz.prog 37 #[.agg #[.int .i64 c.data.ways,.slice s.data.a _ _],_] _ _;(refine(fits_any s.data.a s.data.n s.data.c c.data c.conf s.lat s.tape _ (HR.out.data.toR.below H.bl)).mono ?_;rw[F7.out]);rintro r w1 ⟨rfl,hb⟩;have H1':=H.below hb;clear H;have H:=H1';clear H1')|(go_at_call 37;with_reducible show Calls Tryz.prog 37 #[.agg #[.int .i64 c.words.ways,.slice s.words.a _ _],_] _ _;(refine(fits_any s.words.a s.words.n s.words.c c.words c.conf s.lat s.tape _ (HR.out.words.toR.below H.bl)).mono ?_;rw[F8.out]);rintro r w1 ⟨rfl,hb⟩;have H1':=H.below hb;clear H;have H:=H1';clear H1')|(go_at_call 38;refine(rightg_any ⟨s.slots,c.guess.history,s.returns⟩ c.guess _ ⟨rfl,HR.out.slots.sl.below H.bl,HR.out.slots.wf,HR.out.returns.sl.below H.bl,HR.out.returns.wf⟩).mono ?_;rw[F9.out];rintro r w1 ⟨rfl,hb⟩;have H1':=H.below hb;clear H;have H:=H1';clear H1'))
             go_ret
             exact⟨by rw[E.out,decide_eq_false (show ¬ (s.stores.n:Int)≤c.conf.stores by have:=of_decide_eq_true h11;omega)];simp,H.bl⟩
            | false=>
             have F11:=Lib.hid (show decide ((s.stores.n:Int)≤c.conf.stores)=true from decide_eq_true (by have:=of_decide_eq_false h11;omega))
             go_wp2_with (first|((with_reducible refine gL 35 51 ?_);refine st_Lllr rfl row35 H _ rfl _ 51 rfl _ 42 mm0 _ rfl (sub_data _ _) ?_;go_frame)|((with_reducible refine gL 25 53 ?_);refine st_Lllr rfl row25 H _ rfl _ 0 rfl _ 42 mm0 _ rfl (sub_conf _ _) ?_;go_frame)|((with_reducible refine gL 35 58 ?_);refine sTj rfl ?_;refine wp_Lllr row35 H _ rfl _ 53 rfl _ 42 mm0 _ rfl (sub_words _ _) ?_;go_frame)|((with_reducible refine gL 25 60 ?_);refine sTj rfl ?_;refine wp_Lllr row25 H _ rfl _ 0 rfl _ 42 mm0 _ rfl (sub_conf _ _) ?_;go_frame)|((with_reducible refine gL 39 66 ?_);refine sTj rfl ?_;refine wp_Lllr row39 H _ rfl _ 59 rfl _ 42 mm0 _ rfl (sub_guess _ _) ?_;go_frame)|((with_reducible refine gL 30 71 ?_);refine st_Lll1 rfl one30 H _ rfl _ 47 rfl _ 42 mm0 _ (coC_47 _ _) ?_;go_frame)|((with_reducible refine gL 3 75 ?_);refine st_Lll1 rfl one3 H _ rfl _ 3 rfl _ 42 mm0 _ (coC_3 _ _) ?_;go_frame)|((with_reducible refine gL 32 79 ?_);refine sTj rfl ?_;refine wp_Lll1 one32 H _ rfl _ 50 rfl _ 42 mm0 _ (coC_50 _ _) ?_;go_frame)|((with_reducible refine gL 3 83 ?_);refine sTj rfl ?_;refine wp_Lll1 one3 H _ rfl _ 4 rfl _ 42 mm0 _ (coC_4 _ _) ?_;go_frame)|((with_reducible refine gL 32 87 ?_);refine st_Lll1 rfl one32 H _ rfl _ 50 rfl _ 42 mm0 _ (coC_50 _ _) ?_;go_frame)|(go_at_call 37;with_reducible show Calls Tryz.prog 37 #[.agg #[.int .i64 c.data.ways,.slice s.data.a _ _],_] _ _;(refine(fits_any s.data.a s.data.n s.data.c c.data c.conf s.lat s.tape _ (HR.out.data.toR.below H.bl)).mono ?_;rw[F7.out]);rintro r w1 ⟨rfl,hb⟩;have H1':=H.below hb;clear H;have H:=H1';clear H1')|(go_at_call 37;with_reducible show Calls Tryz.prog 37 #[.agg #[.int .i64 c.words.ways,.slice s.words.a _ _],_] _ _;(refine(fits_any s.words.a s.words.n s.words.c c.words c.conf s.lat s.tape _ (HR.out.words.toR.below H.bl)).mono ?_;rw[F8.out]);rintro r w1 ⟨rfl,hb⟩;have H1':=H.below hb;clear H;have H:=H1';clear H1')|(go_at_call 38;refine(rightg_any ⟨s.slots,c.guess.history,s.returns⟩ c.guess _ ⟨rfl,HR.out.slots.sl.below H.bl,HR.out.slots.wf,HR.out.returns.sl.below H.bl,HR.out.returns.wf⟩).mono ?_;rw[F9.out];rintro r w1 ⟨rfl,hb⟩;have H1':=H.below hb;clear H;have H:=H1';clear H1'))
             clear hfew h10 h11 hlt hk
             go_loopw [90] (fun i wr=>∃(k:Nat),k≤s.stores.n∧i= .int .i64 (k:Int)∧Hid ((c.stores.take k).all (fun p=>okAt c.mem.length p.addr p.data.length)=true)∧Lo w wr [(b1,coC c s,42)]) (fun i _=>s.stores.n-(intOf i).toNat)
             case atStart=>exact⟨0,Nat.zero_le _,rfl,Lib.hid (by simp),H⟩
             case round=>
              clear H
              obtain⟨k,hk,rfl,HG,H⟩:=hrel
              have hfew:=HR.out.stores.sl.few
              by_cases hlt:k<s.stores.n
              ·obtain⟨gA,off,y,eA,hgA,hy,hc⟩:=(HR.out.stores.sl.below H.bl).at_ hlt
               have HA:=Lib.hid hc
               have HY:=Lib.hid hy
               clear hy hc
               cases hno:okAt c.mem.length y.addr y.data.length with
               | false=>
                have HN:=Lib.hid hno
                go_wp2_with (first|((with_reducible refine gL 89 92 ?_);refine st_lrow rfl row89 _ rfl gA (off+k*2) rfl (ptC y) rfl HA.out ?_;try simp only[Act.put,xA,xB,xC,fR])|((with_reducible refine gAl 89 ?_);refine st_Lal rfl (ptC ptZ) zero89 H rfl ?_;clear H;intro w1 b6 hlt1 hb1 H;go_frame)|((with_reducible refine gS 89 6 ?_);refine st_Lslw rfl cel89 _ _ _ H _ _ rfl rfl _ rfl rfl rfl rfl ?_;clear H;intro w1 ho1 H;go_frame)|((with_reducible refine gL 9 94 ?_);refine st_Lll1 rfl one9 H _ rfl _ 58 rfl _ 42 mm1 _ (coC_58 _ _) ?_;go_frame)|((with_reducible refine gL 28 97 ?_);refine st_Lll1 rfl one28 H _ rfl _ 0 rfl _ 89 mm0 _ (ptC_0 _) ?_;go_frame)|((with_reducible refine gL 9 99 ?_);refine st_Lll1 rfl one9 H _ rfl _ 1 rfl _ 89 mm0 _ (ptC_1 _) ?_;go_frame)|(go_at_call 39;refine(mright_any _ y.addr _ HM.out _).mono ?_;rw[HN.out];rintro r w1 ⟨rfl,rfl⟩))
                go_ret
                exact⟨by rw[E.out,all_not (List.mem_of_getElem? HY.out) HN.out];simp,H.bl⟩
               | true=>
                have HN:=Lib.hid hno
                have HX:=Lib.hid (all_step (p:=fun p=>okAt c.mem.length p.addr p.data.length) HG.out HY.out hno)
                go_wp2_with (first|((with_reducible refine gL 89 92 ?_);refine st_lrow rfl row89 _ rfl gA (off+k*2) rfl (ptC y) rfl HA.out ?_;try simp only[Act.put,xA,xB,xC,fR])|((with_reducible refine gAl 89 ?_);refine st_Lal rfl (ptC ptZ) zero89 H rfl ?_;clear H;intro w1 b6 hlt1 hb1 H;go_frame)|((with_reducible refine gS 89 6 ?_);refine st_Lslw rfl cel89 _ _ _ H _ _ rfl rfl _ rfl rfl rfl rfl ?_;clear H;intro w1 ho1 H;go_frame)|((with_reducible refine gL 9 94 ?_);refine st_Lll1 rfl one9 H _ rfl _ 58 rfl _ 42 mm1 _ (coC_58 _ _) ?_;go_frame)|((with_reducible refine gL 28 97 ?_);refine st_Lll1 rfl one28 H _ rfl _ 0 rfl _ 89 mm0 _ (ptC_0 _) ?_;go_frame)|((with_reducible refine gL 9 99 ?_);refine st_Lll1 rfl one9 H _ rfl _ 1 rfl _ 89 mm0 _ (ptC_1 _) ?_;go_frame)|(go_at_call 39;refine(mright_any _ y.addr _ HM.out _).mono ?_;rw[HN.out];rintro r w1 ⟨rfl,rfl⟩))
                simp only[← eA]
                clear eA
                go_roundw
                case rel=>exact⟨k+1,by omega,by go_num,HX,H.drop⟩
                case measure=>simp[intOf];omega
              ·have hkn:k=s.stores.n:=by omega
               have F12:=Lib.hid (all_end HG.out (by rw[HR.out.stores.sl.len];omega))
               subst hkn
               go_wp2
               go_ret
               exact⟨by rw[E.out,H1.out,F2.out,F3.out,F4.out,F5.out,F6.out,F7.out,F8.out,F9.out,F10.out,F11.out,F12.out];rfl,H.bl⟩
theorem cutR_at{L:List En}{i:Nat}{y:En}(h:L[i]?=some y):cutR L i=L.take i++[{ y with guess:=y.next }]:=by
 unfold cutR
 rw[List.getD_eq_getElem?_getD,h];rfl
theorem cut_rob(A:Option Addr)(n C:Nat)(L:List En)(i:Nat)(w:World)(hL:Sl enC 17 w A n L)(hW:Wf A n C)(hi:i<n):Calls Tryz.prog 57 #[.slice A n C,.int .i64 (i:Int)] w (OwP enC 17 85 (cutR L i) w):=by
 have hn:=hL.few
 have hC:=hW.le
 have hCm:=hW.few
 obtain⟨g,off,y,rfl,hg,hy,hc⟩:=hL.at_ hi
 have HE:=Lib.hid (cutR_at hy)
 have HC:=Lib.hid hc
 have HL:=Lib.hid hL
 have b1:¬ (i:Int)<0:=by omega
 have b2:¬ (n:Int)≤(i:Int):=by omega
 have b3:(0:Int)≤(i:Int):=by omega
 have b4:(i:Int)<(n:Int):=by omega
 have b5:(i:Int)≤(C:Int):=by omega
 have H:=Lo.start w
 clear hL hW hy hc
 go_enter Tryz.func57,Tryz.ntmps57
 go_wp2_with (first|((with_reducible refine gL 85 17 ?_);refine st_lrow rfl row85 _ rfl g (off+i*17) rfl (enC y) rfl HC.out ?_;try simp only[Act.put,xA,xB,xC,fR])|((with_reducible refine gAl 85 ?_);refine st_Lal rfl (enC enZ) zero85 H rfl ?_;clear H;intro w1 b1 hlt1 hb1 H;go_frame)|((with_reducible refine gS 85 5 ?_);refine st_Lslw rfl cel85 _ _ _ H _ _ rfl rfl _ rfl rfl rfl rfl ?_;clear H;intro w1 ho1 H;go_frame)|((with_reducible refine gL 28 19 ?_);refine st_Lll1 rfl one28 H _ rfl _ 11 rfl _ _ mm0 _ (enC_11 _) ?_;go_frame)|((with_reducible refine gS 28 21 ?_);refine st_Lsl rfl cel28 _ _ _ H _ _ rfl 7 rfl _ rfl rfl rfl (Nat.le_of_ble_eq_true rfl) _ (enU_7 _ _) ?_;clear H;intro w1 ho1 H;go_frame))
 go_wp2_with fail
 refine beginL 5 (l0:=zz8) H (by kernel_rfl) ?_ (by kernel_rfl);clear H;intro H
 iterate 4 refine rP H ?_;go_frame
 refine tC 4 26 rfl (by kernel_rfl) iQ (by(exact yields_row row85 rfl _ rfl _ _ rfl _ rfl (fun w h j v hj=>(h.lcell mm0 _).trans (Sub.all _ j v hj)))) H ?_;go_frame
 refine o1C 5 27 (fun K hK=>?_)
 refine step_Lbs rfl slT31 (by decide) (enC { y with guess:=y.next }) H _ rfl rfl rfl ?_;clear H;intro w1 b1' hlt1 hb1 H
 refine hK.out _ _ (aB rfl) ?_;clear hK K;go_frame
 refine o1C 6 28 (fun K hK=>?_)
 refine step_clip (L:=L.take i) rfl slT31 enC_size enC_ones ((HL.out.take (by omega)).below H.bl) ⟨fun h=>(by cases h),Nat.le_refl _,by omega⟩ (by rw[List.length_take];omega) _ _ rfl rfl { y with guess:=y.next } b1' 1 rfl (H.row mm0) ?_;intro g' C' w1 how hb2;have hz:=H.bl.size;replace H:=H.below hb2
 refine hK.out _ _ (aB rfl) ?_;clear hK K;go_frame
 refine tQ 7 4 rfl ?_;go_frame
 refine dnC ?_ _
 go_wp2
 go_ret
 refine⟨_,rfl,?_,H.bl⟩
 rw[HE.out]
 exact Ow.lower how hz
theorem storeAt_len(regs:List U)(l:List En)(i:Nat):(storeAt regs l i).length=l.length:=by
 unfold storeAt
 simp only
 split
 ·rfl
 ·split<;>simp
def stk(regs:List U)(l:List En)(k:Nat):List En:=(List.range k).foldl (storeAt regs) l
theorem stk_len(regs:List U)(l:List En):∀ k,(stk regs l k).length=l.length
 | 0=>rfl
 | k+1=>by unfold stk;rw[List.range_succ,List.foldl_append];exact(storeAt_len _ _ _).trans (stk_len regs l k)
theorem stk_succ(regs:List U)(l:List En)(k:Nat):stk regs l (k+1)=storeAt regs (stk regs l k) k:=by
 unfold stk;rw[List.range_succ,List.foldl_append];rfl
theorem storeAt_no{regs:List U}{l:List En}{k:Nat}{e:En}(h:l[k]?=some e)(hk:kd e.i.op≠4):storeAt regs l k=l:=by
 unfold storeAt
 simp only[List.getD_eq_getElem?_getD,h,Option.getD_some]
 rw[if_pos hk]
theorem storeAt_yes{regs:List U}{l:List En}{k:Nat}{e:En}(h:l[k]?=some e)(hk:kd e.i.op=4):storeAt regs l k=if(readE l regs k e.i.r2).2 then l.set k (storeE e (readE l regs k e.i.r2).1)else l:=by
 unfold storeAt
 simp only[List.getD_eq_getElem?_getD,h,Option.getD_some]
 rw[if_neg (by omega)]
theorem wrongI_lt:∀(L:List En) (k:Nat),wrongI L k= -1∨∃ j,wrongI L k=((k+j:Nat):Int)∧j<L.length
 | [],k=>.inl rfl
 | e::l,k=>by
  unfold wrongI
  split
  ·exact .inr ⟨0,by simp,by simp⟩
  ·rcases wrongI_lt l (k+1)with h|⟨j,h1,h2⟩
   ·exact .inl h
   ·exact .inr ⟨j+1,by rw[h1];congr 1;omega,by simp;omega⟩
theorem Fet.nil(p:Nat)(κ:Nat→Nat)(B:Nat)(w:World):Fet p κ B w ⟨none,0,0⟩ []:=⟨Ap.nil _ _ _ _ _ _ _,fun _=>⟨fun h=>absurd h (Nat.lt_irrefl 0),rfl⟩⟩
theorem works_m(w0 w:World)(g:Nat)(κ:Nat→Nat)(c:Co)(s:Ss)(M:MS w0 w g κ c s):Calls Tryz.prog 22 #[.pointer (some ⟨g,0,none⟩)] w fun e w'=>e= .returned (.tuple #[])∧MP w0 w g κ (worksC c) w':=by
 have H:=St'.start M
 have hlen:=M.r.rob.sl.len
 have hfew:=M.r.rob.sl.few
 clear M
 cases e0:(c.halt== 0)with
 | false=>
  have E:=Lib.hid (show worksC c=c by unfold worksC;rw[if_pos (by simpa using e0)])
  go_enter Tryz.func22,Tryz.ntmps22
  go_wp2_with (((with_reducible refine gL 3 14 ?_);refine st_ld1 rfl one3 H _ rfl 62 rfl _ (coC_62 _ _) ?_;go_frame))
  ((try simp only[Exit.inBlock,Exit.then]);refine bodyPost_ret (results_none rfl _ _ _) rfl ?_)
  exact⟨rfl,by rw[E.out];exact H.mp⟩
 | true=>
  have h0:c.halt=0:=by simpa using e0
  have E:=Lib.hid (show worksC c=if 0≤wrongI (stk c.regs (c.rob.map goE) c.rob.length) 0 then { c with rob:=cutR (stk c.regs (c.rob.map goE) c.rob.length) (wrongI (stk c.regs (c.rob.map goE) c.rob.length) 0).toNat,fetch:=((stk c.regs (c.rob.map goE) c.rob.length).getD (wrongI (stk c.regs (c.rob.map goE) c.rob.length) 0).toNat default).next,fetched:=[],stop:=false } else { c with rob:=stk c.regs (c.rob.map goE) c.rob.length } by
   unfold worksC storesR stk;rw[if_neg (by omega),List.length_map])
  have e0':(c.halt != 0)=false:=by unfold bne;rw[e0];rfl
  clear h0 e0
  go_enter Tryz.func22,Tryz.ntmps22
  go_wp2_with (first|((with_reducible refine gL 3 14 ?_);refine st_ld1 rfl one3 H _ rfl 62 rfl _ (coC_62 _ _) ?_;go_frame)|((with_reducible refine gL 31 20 ?_);refine st_ld1 rfl one31 H _ rfl 48 rfl _ (coC_48 _ _) ?_;go_frame))
  go_loopw [23] (fun i wr=>∃(k:Nat) (κ':Nat→Nat),k≤s.rob.n∧i= .int .i64 (k:Int)∧St' w0 w wr g κ κ' (robk goE c k) s []) (fun i _=>s.rob.n-(intOf i).toNat)
  case atStart=>exact⟨0,κ,Nat.zero_le _,rfl,by rw[robk_0];exact H⟩
  case round=>
   clear H
   obtain⟨k,κ',hk,rfl,H⟩:=hrel
   by_cases hlt:k<s.rob.n
   ·obtain⟨r,off,cur,y,eA,_,_,_,hy',hcl⟩:=H.m.entry (i:=k) (by rw[H.m.r.rob.sl.len];exact hlt)
    have hy:c.rob[k]?=some y:=by
     obtain⟨z,hz⟩:∃ z,c.rob[k]?=some z:=⟨_,List.getElem?_eq_getElem (by omega)⟩
     have:=robk_at (f:=goE) hz
     rw[hy']at this;rw[hz,this]
    have HY:=Lib.hid hy
    have HY':=Lib.hid hy'
    have HC1:=Lib.hid hcl
    have EA:=Lib.hid eA
    have b3':(0:Int)≤(k:Int):=by omega
    have b4':(k:Int)<(s.rob.n:Int):=by omega
    clear hy hy' hcl
    go_wp2_with (first|((with_reducible refine gL 85 26 ?_);refine st_lrow rfl row85 _ rfl r (off+k*17) rfl (enC y) rfl HC1.out ?_;try simp only[Act.put,xA,xB,xC,fR])|((with_reducible refine gAl 85 ?_);refine st_al rfl (enC enZ) zero85 H rfl ?_;clear H;intro w1 b3 κ1 H;go_frame)|((with_reducible refine gS 85 3 ?_);refine st_slw rfl cel85 _ _ _ H _ _ rfl rfl _ rfl rfl rfl rfl ?_;clear H;intro w1 ho1 H;go_frame))
    go_wp2_with fail
    refine beginE 9 (l0:=zz10) H (by kernel_rfl) ?_ (by kernel_rfl);clear H;intro H
    iterate 4 refine rP ⟨_,H⟩ ?_;go_frame
    refine tC 4 32 rfl (by kernel_rfl) iQ (by(exact yields_one one31 rfl _ rfl _ rfl _ (fun w h=>(h.cell 48).trans (coC_48 _ _)))) ⟨_,H⟩ ?_;go_frame
    refine tP 5 33 ⟨_,H⟩ ?_;go_frame
    refine tC 6 34 rfl (by kernel_rfl) iQ (by(exact yields_row row85 rfl _ rfl _ _ rfl _ rfl (fun w h j v hj=>(h.lcell mm0 _).trans (Sub.all _ j v hj)))) ⟨_,H⟩ ?_;go_frame
    refine o1C 7 35 (fun K hK=>?_)
    refine step_fn rfl _ _ _ (go_any y _) (by go_simp<;>rfl) ?_;rintro r w1 ⟨rfl,hb⟩;refine⟨_,rfl,?_⟩;replace H:=H.below hb
    refine hK.out _ _ (fun _=>⟨_,H⟩) ?_;clear hK K;go_frame
    refine tP 8 36 ⟨_,H⟩ ?_;go_frame
    refine o1N 9 (fun K hK=>?_)
    refine step_se rfl cel85 H _ _ rfl r off k 0 y (goE y) EA.out HY'.out rfl _ rfl rfl rfl (by decide) (en_put y _) ?_;clear H;intro w1 H
    refine hK.out _ _ (aB rfl) ?_;clear hK K;go_frame
    refine dnC ?_ _
    go_wp2_with fail
    try simp only[← eA]
    clear eA
    go_roundw
    all_goals first
     | exact⟨k+1,_,by omega,by go_num,by rw[← robk_set HY.out];exact H.drop⟩|(simp[intOf];omega)
   ·have hkn:k=s.rob.n:=by omega
    subst hkn
    rw[robk_all (by omega)]at H
    go_wp2_with (((with_reducible refine gL 31 41 ?_);refine st_ld1 rfl one31 H _ rfl 48 rfl _ (coC_48 _ _) ?_;go_frame))
    clear hlt hk
    have hl1:(c.rob.map goE).length=s.rob.n:=by rw[List.length_map];exact hlen
    rw[hlen]at E
    generalize c.rob.map goE=L1 at H E hl1
    go_loopw [44] (fun i wr=>∃(k:Nat) (κ':Nat→Nat),k≤s.rob.n∧i= .int .i64 (k:Int)∧St' w0 w wr g κ κ' { c with rob:=stk c.regs L1 k } s []) (fun i _=>s.rob.n-(intOf i).toNat)
    case atStart=>exact⟨0,κ',Nat.zero_le _,rfl,H⟩
    case round=>
     clear H κ'
     obtain⟨k,κ',hk,rfl,H⟩:=hrel
     by_cases hlt:k<s.rob.n
     ·obtain⟨r,off,cur,y,eA,_,_,_,hy,hcl⟩:=H.m.entry (i:=k) (by rw[H.m.r.rob.sl.len];exact hlt)
      have HY:=Lib.hid hy
      have HC1:=Lib.hid hcl
      have EA:=Lib.hid eA
      have b3':(0:Int)≤(k:Int):=by omega
      have b4':(k:Int)<(s.rob.n:Int):=by omega
      clear hy hcl
      cases g1:(kd y.i.op== 4)with
      | false=>
       have HX:=Lib.hid ((stk_succ c.regs L1 k).trans (storeAt_no HY.out (by simpa using g1)))
       have g1':(kd y.i.op != 4)=true:=by unfold bne;rw[g1];rfl
       go_wp2_with (first|((with_reducible refine gL 85 47 ?_);refine st_lrow rfl row85 _ rfl r (off+k*17) rfl (enC y) rfl HC1.out ?_;try simp only[Act.put,xA,xB,xC,fR])|((with_reducible refine gAl 85 ?_);refine st_al rfl (enC enZ) zero85 H rfl ?_;clear H;intro w1 b3 κ1 H;go_frame)|((with_reducible refine gS 85 5 ?_);refine st_slw rfl cel85 _ _ _ H _ _ rfl rfl _ rfl rfl rfl rfl ?_;clear H;intro w1 ho1 H;go_frame)|((with_reducible refine gL 83 49 ?_);refine st_llr rfl row83 H _ rfl _ 2 rfl _ 85 mm0 (inC _) rfl (sub_inst _) ?_;go_frame)|(go_at_call 52;refine(kind_any y.i.op y.i.rd y.i.r1 y.i.r2 y.i.imm.v _).mono ?_;rintro r w1 ⟨rfl,hb⟩;replace H:=H.below hb))
       try simp only[← eA]
       clear eA
       go_roundw
       all_goals first
        | exact⟨k+1,_,by omega,by go_num,by rw[HX.out];exact H.drop⟩|(simp[intOf];omega)
      | true=>
       have g1':(kd y.i.op != 4)=false:=by unfold bne;rw[g1];rfl
       obtain⟨rv,rb,hr⟩:∃ rv rb,readE (stk c.regs L1 k) c.regs k y.i.r2=(rv,rb):=⟨_,_,rfl⟩
       have HR:=Lib.hid hr
       have HX:=Lib.hid ((stk_succ c.regs L1 k).trans (storeAt_yes HY.out (by simpa using g1)))
       rw[hr]at HX
       clear hr
       go_wp2_with (first|((with_reducible refine gL 85 47 ?_);refine st_lrow rfl row85 _ rfl r (off+k*17) rfl (enC y) rfl HC1.out ?_;try simp only[Act.put,xA,xB,xC,fR])|((with_reducible refine gAl 85 ?_);refine st_al rfl (enC enZ) zero85 H rfl ?_;clear H;intro w1 b3 κ1 H;go_frame)|((with_reducible refine gS 85 5 ?_);refine st_slw rfl cel85 _ _ _ H _ _ rfl rfl _ rfl rfl rfl rfl ?_;clear H;intro w1 ho1 H;go_frame)|((with_reducible refine gL 83 49 ?_);refine st_llr rfl row83 H _ rfl _ 2 rfl _ 85 mm0 (inC _) rfl (sub_inst _) ?_;go_frame)|((with_reducible refine gL 83 54 ?_);refine st_llr rfl row83 H _ rfl _ 2 rfl _ 85 mm0 (inC _) rfl (sub_inst _) ?_;go_frame)|(go_at_call 52;refine(kind_any y.i.op y.i.rd y.i.r1 y.i.r2 y.i.imm.v _).mono ?_;rintro r w1 ⟨rfl,hb⟩;replace H:=H.below hb)|(go_at_call 53;refine(reads_any y.i.op y.i.rd y.i.r1 y.i.r2 y.i.imm.v _).mono ?_;rintro r w1 ⟨rfl,hb⟩;replace H:=H.below hb))
       go_wp2_with fail
       refine beginS 12 (l0:=zz18) H (by kernel_rfl) ?_ (by kernel_rfl);clear H;intro H
       iterate 4 refine rP H ?_;go_frame
       refine tC 4 64 rfl (by kernel_rfl) iQ (by(exact yields_one one31 rfl _ rfl _ rfl _ (fun w h=>(h.cell 48).trans (coC_48 _ _)))) H ?_;go_frame
       iterate 4 refine rP H ?_;go_frame
       refine tC 9 69 rfl (by kernel_rfl) iQ (by(exact yields_row row29 rfl _ rfl _ _ rfl _ rfl (fun w h j v hj=>(h.cell _).trans (sub_regs _ _ j v hj)))) H ?_;go_frame
       iterate 2 refine rP H ?_;go_frame
       refine o1C 12 72 (fun K hK=>?_)
       refine step_fn rfl _ _ _ (sread_any s.rob.a s.rob.n s.rob.c (stk c.regs L1 k) c.regs k y.i.r2 _ H.m.r.rob.sl (Nat.le_of_lt hlt)) (by go_simp<;>rfl) ?_;unfold RdeP;rw[HR.out];rintro r w1 ⟨rfl,hb⟩;refine⟨_,rfl,?_⟩;replace H:=H.below hb
       refine hK.out _ _ (aB rfl) ?_;clear hK K;go_frame
       iterate 5 refine rQ rfl ?_;go_frame
       refine dnC ?_ _
       cases rb with
       | false=>
        go_wp2_with fail
        try simp only[← eA]
        clear eA
        go_roundw
        all_goals first
         | exact⟨k+1,_,by omega,by go_num,by rw[HX.out,if_neg Bool.false_ne_true];exact H.drop⟩|(simp[intOf];omega)
       | true=>
        go_wp2_with fail
        go_wp2_with fail
        refine beginE 10 (l0:=zz11) H (by kernel_rfl) ?_ (by kernel_rfl);clear H;intro H
        iterate 4 refine rP ⟨_,H⟩ ?_;go_frame
        refine tC 4 80 rfl (by kernel_rfl) iQ (by(exact yields_one one31 rfl _ rfl _ rfl _ (fun w h=>(h.cell 48).trans (coC_48 _ _)))) ⟨_,H⟩ ?_;go_frame
        refine tP 5 81 ⟨_,H⟩ ?_;go_frame
        refine tC 6 82 rfl (by kernel_rfl) iQ (by(exact yields_row row85 rfl _ rfl _ _ rfl _ rfl (fun w h j v hj=>(h.lcell mm0 _).trans (Sub.all _ j v hj)))) ⟨_,H⟩ ?_;go_frame
        refine tP 7 83 ⟨_,H⟩ ?_;go_frame
        refine o1C 8 84 (fun K hK=>?_)
        refine step_fn rfl _ _ _ (store_any y rv _) (by go_simp<;>rfl) ?_;rintro r w1 ⟨rfl,hb⟩;refine⟨_,rfl,?_⟩;replace H:=H.below hb
        refine hK.out _ _ (fun _=>⟨_,H⟩) ?_;clear hK K;go_frame
        refine tP 9 85 ⟨_,H⟩ ?_;go_frame
        refine o1N 10 (fun K hK=>?_)
        refine step_se rfl cel85 H _ _ rfl r off k 0 y (storeE y rv) EA.out HY.out rfl _ rfl rfl rfl (by decide) (en_put y _) ?_;clear H;intro w1 H
        refine hK.out _ _ (aB rfl) ?_;clear hK K;go_frame
        refine dnC ?_ _
        go_wp2_with fail
        try simp only[← eA]
        clear eA
        go_roundw
        case rel=>
         refine⟨_,_,_,_,_,_,_,⟨k+1,by omega,?_,?_⟩,rfl,rfl,rfl,rfl,rfl,rfl,rfl⟩
         ·go_num
         ·exact⟨_,by rw[HX.out,if_pos (by simp)];exact H.drop⟩
        case measure=>simp[intOf];omega
     ·have hkn:k=s.rob.n:=by omega
      subst hkn
      clear hlt hk
      have hl2:(stk c.regs L1 s.rob.n).length=s.rob.n:=by rw[stk_len];exact hl1
      generalize stk c.regs L1 s.rob.n=L2 at H E hl2
      rcases wrongI_lt L2 0 with hw|⟨j,hw,hj⟩
      ·have HW:=Lib.hid hw
       have d0:¬ (0:Int)≤ -1:=by decide
       go_wp2_with (first|((with_reducible refine gL 31 90 ?_);refine st_ld1 rfl one31 H _ rfl 48 rfl _ (coC_48 _ _) ?_;go_frame)|(go_at_call 56;refine(wrong_any s.rob.a s.rob.n s.rob.c L2 _ H.m.r.rob.sl).mono ?_;rw[HW.out];rintro r w1 ⟨rfl,hb⟩;replace H:=H.below hb))
       go_end0
       exact⟨rfl,by rw[E.out,HW.out,if_neg (by decide)];exact H.mp⟩
      ·have hw':wrongI L2 0=(j:Int):=by rw[hw,Nat.zero_add]
       have HW:=Lib.hid hw'
       clear hw hw'
       obtain⟨r,off,cur,y,eA,_,hgr,_,hy,hcl⟩:=H.m.entry (i:=j) hj
       have HG:=Lib.hid hgr
       clear hgr
       have HC1:=Lib.hid (hcl 11 (.int .u32 y.next.v) rfl)
       have HY:=Lib.hid hy
       have b3':(0:Int)≤(j:Int):=by omega
       have b4':(j:Int)<(s.rob.n:Int):=by omega
       clear hy hcl
       have d0:(0:Int)≤(j:Int):=by omega
       have EA:=Lib.hid eA
       clear eA
       go_wp2_with (first|((with_reducible refine gL 31 99 ?_);refine st_ld1 rfl one31 H _ rfl 48 rfl (.slice (some ⟨r,off,none⟩) s.rob.n s.rob.c) ((coC_48 _ _).trans (by rw[EA.out])) ?_;try simp only[Act.put,xA,xB,xC,fR])|((with_reducible refine gL 31 90 ?_);refine st_ld1 rfl one31 H _ rfl 48 rfl _ (coC_48 _ _) ?_;go_frame)|((with_reducible refine gL 31 112 ?_);refine st_ld1 rfl one31 H _ rfl 48 rfl _ (coC_48 _ _) ?_;go_frame)|(go_at_call 56;refine(wrong_any s.rob.a s.rob.n s.rob.c L2 _ H.m.r.rob.sl).mono ?_;rw[HW.out];rintro r w1 ⟨rfl,hb⟩;have HC2:=Lib.hid ((hb.cell (p:=⟨_,_,none⟩) (Array.getElem?_eq_some_iff.1 HG.out).1).trans HC1.out);replace H:=H.below hb)|((with_reducible refine gL 28 103 ?_);refine st_lone rfl one28 _ rfl ⟨r,off+j*17+11,none⟩ rfl _ HC2.out ?_;try simp only[Act.put,xA,xB,xC,fR])|((with_reducible refine gS 28 107 ?_);refine st_sb rfl cel28 (H.md (H.m.r.s_fetch _)) _ _ rfl 45 rfl _ rfl rfl rfl (by decide) (coU_fetch _ _ _) ?_;clear H;intro w1 H;go_frame)|(go_at_call 57;refine(cut_rob s.rob.a s.rob.n s.rob.c L2 j _ H.m.r.rob.sl H.m.r.rob.wf (by omega)).mono ?_;rintro r w1 ⟨v,rfl,how,hb⟩;obtain⟨A,C,κ2,rfl,HMd⟩:=H.newrob hb how;clear how hb H)|((with_reducible refine gS 31 118 ?_);refine st_sb rfl cel31 HMd _ _ rfl 48 rfl _ rfl rfl rfl (by decide) (coU_rob _ _ _ A _ C) ?_;intro w1 H;clear HMd;try simp only[Act.put,xA,xB,xC,fR])|((with_reducible refine gS 30 122 ?_);refine st_sb rfl cel30 (H.md (H.m.r.s_fetched ⟨none,0,0⟩ [] (Fet.nil _ _ _ _))) _ _ rfl 47 rfl _ rfl rfl rfl (by decide) (coU_fetched _ _ [] none 0 0) ?_;clear H;intro w1 H;try simp only[Act.put,xA,xB,xC,fR])|((with_reducible refine gS 4 126 ?_);refine st_sb rfl cel4 (H.md (H.m.r.s_stop _)) _ _ rfl 46 rfl _ rfl rfl rfl (by decide) (coU_stop _ _ _) ?_;clear H;intro w1 H;go_frame))
       go_end0
       refine⟨rfl,?_⟩
       rw[E.out,HW.out,if_pos d0,Int.toNat_natCast,List.getD_eq_getElem?_getD,HY.out,Option.getD_some]
       exact H.mp
theorem addb(r:Addr)(m:Nat):(r.add m).block=r.block:=by unfold Addr.add;split<;>rfl
def tailA(A:Option Addr)(C k:Nat):Option Addr:=if C=1 then A else A.map (·.add (1*k))
def TlT(t k:Nat):Prop:=Tryz.prog.underlying t=some (.slice (Tryz.prog.elem t))∧∀ w:World,(sizeOf (Tryz.prog.elem t)).run Tryz.prog w= .ok k w
theorem tl30:TlT 30 2:=⟨by kernel_rfl,fun w=>by kernel_rfl⟩
theorem tl31:TlT 31 17:=⟨by kernel_rfl,fun w=>by kernel_rfl⟩
section
variable {w0 ws w w':World} {g:Nat} {κs κ κ':Nat→Nat} {c c':Co} {s s':Ss} {l l':List Lc} {ops:Array Oper} {rest:List Oper} {o:Oper} {a:Act} {Q:Exit→Act→World→Prop} {K:Act→World→Prop} {E:Prop} {T n k:Nat}
theorem st_tail(hgd:o.guard=none){t:TypeId}(hT:TlT t k)(x:Operand)(ho:o.op= .slice t x (some (.const (.int .i64 1))) none none)(A:Option Addr)(C:Nat)(hx:a.eval x= .slice A n C)(h1:1≤n)
 (h:wpList Tryz.prog ops Q rest (a.put o.dst (.slice (tailA A C k) (n-1) (C-1))) w):wpList Tryz.prog ops Q (o::rest) a w:=by
 refine wpList_plain hgd fun K hK=>?_
 have hrun:(Instr.sliceAt t (.slice A n C) (some (.int .i64 1)) none none).run Tryz.prog w= .ok (.slice (tailA A C k) (n-1) (C-1)) w:=by
  refine(run_sliceAt_slice (P:=Tryz.prog) w t (.slice A n C) (some (.int .i64 1)) none none hT.1).trans ?_
  refine(run_slice_l (P:=Tryz.prog) w t A n C hT.1 .i64 1 (by decide) (by omega)).trans ?_
  have e:=hT.2 w
  generalize sizeOf (Tryz.prog.elem t)=z at e
  rw[e]
  rfl
 unfold Oper.wp execOp
 have hc:a.eval (.const (.int .i64 1))= .int .i64 1:=rfl
 simp only[ho,hx,hc,Option.map_some,Option.map_none,Sem.run_bind,Sem.run_pure,Result.andThen_ok,hrun]
 exact hK _ _ h
end
section
variable {α:Type} {lay:α→Array Value} {k B p:Nat} {w:World} {s:Sv} {L:List α} {x:α} {κ:Nat→Nat} {X:Nat→Prop}
theorem Wf.tl(h:Wf s.a s.n s.c):Wf (tailA s.a s.c k) (s.n-1) (s.c-1):=⟨fun e=>by
 have:s.a=none:=by
  unfold tailA at e
  split at e
  ·exact e
  ·cases hq:s.a with
   | none=>rfl
   | some q=>rw[hq]at e;cases e
 have:=h.nil this
 omega,by have:=h.le;omega,by have:=h.few;omega⟩
theorem Av.tl(h:Av X s.a s.n):Av X (tailA s.a s.c k) (s.n-1):=fun hn q hq=>by
 unfold tailA at hq
 split at hq
 ·exact h (by omega) q hq
 ·cases hs:s.a with
  | none=>rw[hs]at hq;cases hq
  | some r=>
   rw[hs]at hq
   cases hq
   have e:(r.add (1*k)).block=r.block:=addb r _
   have:=h (by omega) r hs
   rw[← e]at this
   exact this
theorem Sl.tl(h:Sl lay k w s.a s.n (x::L))(hw:Wf s.a s.n s.c):Sl lay k w (tailA s.a s.c k) (s.n-1) L:=h.tail hw.le
theorem Fet.tl{f:Fe}{L:List Fe}(h:Fet 0 κ B w s (f::L)):Fet p κ B w ⟨tailA s.a s.c 2,s.n-1,s.c-1⟩ L:=by
 obtain⟨h1,h2⟩:=h.full rfl
 have q:=h1.tl (k:=2)
 exact⟨⟨h.sl.tl h.wf,h.wf.tl,.inl ⟨q,by simp only;omega⟩⟩,fun _=>⟨q,by simp only;omega⟩⟩
theorem Rw.tl{f:En}{L:List En}(h:Rw κ 2 enC 17 85 w s (f::L)):Rw κ 2 enC 17 85 w ⟨tailA s.a s.c 17,s.n-1,s.c-1⟩ L:=by
 refine⟨h.sl.tl h.wf,h.wf.tl,fun hn=>?_⟩
 simp only at hn
 obtain⟨r,off,cur,h1,h2,h3,h4⟩:=h.own (by omega)
 have hle:=h.wf.le
 refine⟨r,off+17,cur,?_,h2,h3,by simp only;omega⟩
 simp only[tailA]
 rw[if_neg (by omega),h1]
 rfl
end
end Go.Proofs.YtdmhfogegfmnfaaGreatDoor
