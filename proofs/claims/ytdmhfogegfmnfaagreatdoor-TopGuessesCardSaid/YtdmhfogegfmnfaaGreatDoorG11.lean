/- Contracts: a line put to the front. Conditions: the ways read as a list. Contracts: where a line stands in a cache; a line touched. Conditions: the cache reads as one. -/
import Derived.Test.YtdmhfogegfmnfaaGreatDoorG00
import Derived.Test.YtdmhfogegfmnfaaGreatDoorG01
import Derived.Test.YtdmhfogegfmnfaaGreatDoorG02
import Derived.Test.YtdmhfogegfmnfaaGreatDoorG10
set_option maxRecDepth 100000
set_option maxHeartbeats 1000000
set_option linter.unusedVariables false
set_option linter.unusedSimpArgs false
namespace Go.Proofs.YtdmhfogegfmnfaaGreatDoor
open Go.RowKit
theorem front_any(A:Option Addr)(n C:Nat)(L:List Wy)(at_:Nat)(w:World)(hL:Sl wyC 3 w A n L)(hA:A=none→C=0)(hC:n≤C)(hat:at_<n):Calls Tryz.prog 83 #[.slice A n C,.int .i64 at_] w (OwP wyC 3 46 (frontW L at_) w):=by
 have hn:=hL.few
 have hl:=hL.len
 have HL:=Lib.hid hL
 have HA:=Lib.hid hA
 obtain⟨g,off,y,rfl,hg,hy,hc⟩:=hL.at_ hat
 have HY:=Lib.hid hy
 have HC:=Lib.hid hc
 clear hL hA hy hc
 have d1:((at_:Int)+1).toNat=at_+1:=by omega
 have F1:=Lib.hid (show []++[y]=[y]from rfl)
 have hw0:w.heap.size≤w.heap.size:=Nat.le_refl _
 have e3:frontW L at_=[y]++L.take at_++L.drop (at_+1):=by
  unfold frontW
  rw[List.getD_eq_getElem?_getD,HY.out];simp
 have E3:=Lib.hid e3
 clear e3
 go_enter Tryz.func83,Tryz.ntmps83
 go_wp2_with (first|((with_reducible refine gD (Op.makeSlice 51 _ _) ?_);refine make_sl (α:=Wy) (lay:=wyC) slT51 rfl _ _ rfl w.heap.size .i64 .i64 n n rfl rfl rfl hn (Nat.le_refl _) ?_;intro v1 w1 h1 g1;have HB1:=Lib.hid (bl_own (Below.refl w.heap.size w) g1 (Nat.le_refl _) (fun k h=>by cases h));have hs1:=HB1.out.size;have HO1:=Lib.hid h1;clear h1 g1;try simp only[Act.put,xA,xB,xC,fR])|((with_reducible refine gD (Op.load 46 _) ?_);refine take_el row46 rfl _ rfl g (off+at_*3) rfl y (wyC_size y) (fun j v hv=>(HB1.out.cell (p:=⟨g,_,none⟩) hg).trans (HC.out j v hv)) ?_;try simp only[Act.put,xA,xB,xC,fR])|(at_builtin;(refine app_sl slT51 wyC_size wyC_ones rfl _ _ rfl w.heap.size v1 [] rfl (HO1.out.below (by(repeat(first|exact Below.refl _ _|(refine Below.alloc ?_ ?_ _;rotate_left;(omega)))))) (some ⟨w1.heap.size,0,none⟩) 1 1 [y] rfl (Sl.new (t:=46) (fr:=(0,0)) wyC_size (heap_alloc_new _ _) (by simp)) (fun h=>by cases h) (by simp) (by simp only[World.size_alloc];omega) ?_);intro v2 w2 h2 g2;have HB2:=Lib.hid (bl_own (HB1.out.alloc hs1 _) g2 (by simp only[World.size_alloc];omega) HO1.out.row);have hs2:=HB2.out.size;have HO2:=Lib.hid h2;clear h2 g2;try simp only[Act.put,xA,xB,xC,fR])|(at_builtin;(refine app_sl slT51 wyC_size wyC_ones rfl _ _ rfl w.heap.size v2 ([]++[y]) rfl HO2.out (some ⟨g,off,none⟩) at_ C (L.take at_) rfl ((HL.out.below HB2.out).take (by omega)) (fun h=>by cases h) (by simp;omega) hs2 ?_);intro v3 w3 h3 g3;have HB3:=Lib.hid (bl_own HB2.out g3 hs2 HO2.out.row);have hs3:=HB3.out.size;have HO3:=Lib.hid h3;clear h3 g3;try simp only[Act.put,xA,xB,xC,fR])|(at_builtin;(refine app_sl slT51 wyC_size wyC_ones rfl _ _ rfl w.heap.size v3 ([]++[y]++L.take at_) rfl HO3.out _ (n-(at_+1)) _ (L.drop (at_+1)) rfl ((HL.out.below HB3.out).drop (by omega) hC (by intro h;first|simp[h])) (by intro h;split at h<;>cases h) (by simp;omega) hs3 ?_);intro v4 w4 h4 g4;have HB4:=Lib.hid (bl_own HB3.out g4 hs3 HO3.out.row);have HO4:=Lib.hid h4;clear h4 g4;try simp only[Act.put,xA,xB,xC,fR]))
 all_goals
  go_ret
  exact⟨v4,rfl,by rw[E3.out];exact HO4.out,HB4.out⟩
theorem way_parts{c:Ca}{k:Nat}{b:List Wy}{y:Wy}:wayOk c k b y=true↔lineU y.line=y.line∧setNo c y.line=k∧(y.data.length=0∨y.data.length=16)∧(placeW b y.line).2=false:=by
 unfold wayOk
 simp only[Bool.and_eq_true,Bool.or_eq_true,decide_eq_true_eq,Bool.not_eq_true']
 constructor
 ·rintro⟨⟨⟨h1,h2⟩,h3⟩,h4⟩;exact⟨h1,h2,h3,h4⟩
 ·rintro⟨h1,h2,h3,h4⟩;exact⟨⟨⟨h1,h2⟩,h3⟩,h4⟩
theorem setOk_iff{c:Ca}{k:Nat}:∀(L b:List Wy),setOk c k b L=true↔∀ j y,L[j]?=some y→wayOk c k (b++L.take j) y=true
 | [],b=>by simp[setOk]
 | z::L,b=>by
  unfold setOk
  rw[Bool.and_eq_true,setOk_iff L]
  constructor
  ·rintro⟨h1,h2⟩ j y hy
   match j with
   | 0=>simp at hy;subst hy;simpa using h1
   | j+1=>
    have:=h2 j y (by simpa using hy)
    simpa using this
  ·intro h
   refine⟨by simpa using h 0 z (by simp),fun j y hy=>?_⟩
   have:=h (j+1) y (by simpa using hy)
   simpa using this
def SetFine(c:Ca)(k:Nat)(L:List Wy):Prop:=(L.length:Int)≤c.ways∧∀ j y,L[j]?=some y→wayOk c k (L.take j) y=true
theorem setsOk_iff{c:Ca}:∀(S:List (List Wy)) (k:Nat),setsOk c k S=true↔∀ i L,S[i]?=some L→SetFine c (k+i) L
 | [],k=>by simp[setsOk]
 | z::S,k=>by
  unfold setsOk
  rw[Bool.and_eq_true,Bool.and_eq_true,setsOk_iff S,setOk_iff,decide_eq_true_eq]
  constructor
  ·rintro⟨⟨h1,h2⟩,h3⟩ i L hL
   match i with
   | 0=>simp at hL;subst hL;exact⟨h1,fun j y hy=>by simpa using h2 j y hy⟩
   | i+1=>have:=h3 i L (by simpa using hL);rw[show k+(i+1)=k+1+i by omega];exact this
  ·intro h
   have h0:=h 0 z (by simp)
   refine⟨⟨h0.1,fun j y hy=>by simpa using h0.2 j y hy⟩,fun i L hL=>?_⟩
   have:=h (i+1) L (by simpa using hL)
   rw[show k+(i+1)=k+1+i by omega]at this
   exact this
theorem right_iff{c:Ca}:rightC c=true↔((c.sets.length=1∨c.sets.length=2∨c.sets.length=4)∧(c.ways=1∨c.ways=2))∧∀ i L,c.sets[i]?=some L→SetFine c i L:=by
 unfold rightC
 rw[Bool.and_eq_true,decide_eq_true_eq,setsOk_iff]
 simp only[Nat.zero_add]
end Go.Proofs.YtdmhfogegfmnfaaGreatDoor
