/- Plain: bytes under stores, lines of caches. No conditions. Plain: caches that may be stay so; lines that stand. No conditions. Plain: a line that is put, written, cleaned; the first dirty one. No conditions. Plain: a line that is written, one that is cleaned, the first dirty one. No conditions. Plain: what holds of a core at each cycle. No conditions. Plain: what holds of a .. -/
import Derived.Test.YtdmhfogegfmnfaaGreatDoorG01
import Derived.Test.YtdmhfogegfmnfaaGreatDoorG03
set_option linter.unusedVariables false
set_option linter.unusedSimpArgs false
namespace Go.Proofs.YtdmhfogegfmnfaaGreatDoor
open Go.RowKit
def bt1(p:Pt)(i:Nat):Option UInt8:=if p.addr.v.toNat≤i then p.data[i-p.addr.v.toNat]? else none
def bt:List Pt→Nat→Option UInt8
 | [],_=>none
 | p::l,i=>(bt l i).or (bt1 p i)
theorem lay_at(m:By)(a:Nat)(d:By)(i:Nat)(ha:a≤m.length)(hi:i<m.length):(lay m a d)[i]?=(if a≤i then d[i-a]? else none).or m[i]?:=by
 unfold lay
 by_cases h:i<a
 ·rw[List.getElem?_append_left (by simp;omega),List.getElem?_take_of_lt h,if_neg (by omega)];simp
 ·rw[List.getElem?_append_right (by simp;omega),if_pos (by omega)]
  have e1:(m.take a).length=a:=by simp;omega
  rw[e1]
  by_cases h2:i-a<d.length
  ·rw[List.getElem?_append_left (by simp;omega),List.getElem?_take_of_lt (by omega),List.getElem?_eq_getElem h2];simp
  ·rw[List.getElem?_append_right (by simp;omega),List.getElem?_drop,List.getElem?_eq_none (l:=d) (by omega)]
   have e2:(d.take (m.length-a)).length=d.length:=by simp;omega
   rw[e2,show a+d.length+(i-a-d.length)=i by omega];simp
theorem lay_length(m:By)(a:Nat)(d:By)(ha:a≤m.length):(lay m a d).length=m.length:=by
 unfold lay
 simp
 omega
def ov1(m:By)(p:Pt):By:=if p.addr.v<m.length then lay m p.addr.v.toNat p.data else m
theorem ov1_len(m:By)(p:Pt):(ov1 m p).length=m.length:=by
 unfold ov1
 split
 ·have:=p.addr.lo;exact lay_length _ _ _ (by omega)
 ·rfl
theorem ov1_at(m:By)(p:Pt)(i:Nat)(hi:i<m.length):(ov1 m p)[i]?=(bt1 p i).or m[i]?:=by
 have h0:=p.addr.lo
 unfold ov1 bt1
 by_cases h:p.addr.v<m.length
 ·rw[if_pos h,lay_at _ _ _ _ (by omega) hi]
 ·rw[if_neg h,if_neg (by omega)];simp
theorem ov_cons(m:By)(p:Pt)(l:List Pt):overM m (p::l)=overM (ov1 m p) l:=rfl
theorem ov_len:∀(l:List Pt) (m:By),(overM m l).length=m.length
 | [],m=>rfl
 | p::l,m=>by rw[ov_cons,ov_len l,ov1_len]
theorem ov_at:∀(l:List Pt) (m:By) (i:Nat),i<m.length→(overM m l)[i]?=(bt l i).or m[i]?
 | [],m,i,_=>by simp[overM,bt]
 | p::l,m,i,h=>by rw[ov_cons,ov_at l _ i (by rw[ov1_len];exact h),ov1_at m p i h,bt,Option.or_assoc]
theorem ov_app(m:By):∀(a b:List Pt),overM m (a++b)=overM (overM m a) b
 | [],b=>rfl
 | p::a,b=>by rw[List.cons_append,ov_cons,ov_app _ a b,ov_cons]
theorem by_ext{a b:By}(hl:a.length=b.length)(h:∀ i,i<a.length→a[i]?=b[i]?):a=b:=by
 apply List.ext_getElem?
 intro i
 rcases Nat.lt_or_ge i a.length with c|c
 ·exact h i c
 ·rw[List.getElem?_eq_none c,List.getElem?_eq_none (by omega)]
theorem ov_ext{m m':By}{a b:List Pt}(hl:m.length=m'.length)(h:∀ i,i<m.length→(bt a i).or m[i]?=(bt b i).or m'[i]?):overM m a=overM m' b:=by
 refine by_ext (by rw[ov_len,ov_len];exact hl) fun i hi=>?_
 rw[ov_len]at hi
 rw[ov_at _ _ _ hi,ov_at _ _ _ (by omega)]
 exact h i hi
theorem lineU_v(a:U):(lineU a).v=a.v-a.v % 16:=by
 have h0:=a.lo
 have h1:=a.hi
 show(a.v-a.v % 16) % 4294967296=_
 omega
theorem lineU_al(a:U):(lineU a).v % 16=0:=by rw[lineU_v];omega
theorem lineU_id{a:U}(h:a.v % 16=0):lineU a=a:=U.eq_of (by rw[lineU_v];omega)
theorem lineU_idem(a:U):lineU (lineU a)=lineU a:=lineU_id (lineU_al a)
theorem lineU_eq{a:U}(h:lineU a=a):a.v % 16=0:=by have:=lineU_al a;rw[h]at this;exact this
def Ln(n:Nat)(u:U):Prop:=u.v % 16=0∧u.v+16≤n
theorem cut_len{m:By}{u:U}(h:Ln m.length u):(cutM m u).length=16:=by
 obtain⟨h1,h2⟩:=h
 have h0:=u.lo
 unfold cutM cutB
 rw[lineU_id h1,if_neg (by omega)]
 simp;omega
theorem cut_at{m:By}{u:U}(h:Ln m.length u){j:Nat}(hj:j<16):(cutM m u)[j]?=m[u.v.toNat+j]?:=by
 obtain⟨h1,h2⟩:=h
 have h0:=u.lo
 unfold cutM cutB
 rw[lineU_id h1,if_neg (by omega),List.getElem?_take_of_lt hj,List.getElem?_drop]
theorem cut_eq{m:By}{u:U}(h:Ln m.length u){d:By}(hd:d.length=16)(he:∀ j,j<16→d[j]?=m[u.v.toNat+j]?):d=cutM m u:=
 by_ext (by rw[cut_len h,hd]) fun j hj=>by rw[he j (by omega),cut_at h (by omega)]
theorem cut_congr{m m':By}{u:U}(h:Ln m.length u)(hl:m'.length=m.length)(he:∀ j,j<16→m'[u.v.toNat+j]?=m[u.v.toNat+j]?):cutM m' u=cutM m u:=
 cut_eq h (cut_len (m:=m') (by rw[hl];exact h)) fun j hj=>by rw[cut_at (m:=m') (by rw[hl];exact h) hj,he j hj]
theorem place_some{line:U}:∀(L:List Wy),(placeW L line).2=true→∃ y,L[(placeW L line).1]?=some y∧y.line=line
 | [],h=>by simp[placeW]at h
 | z::L,h=>by
  unfold placeW at h ⊢
  by_cases c:z.line=line
  ·rw[if_pos c];exact⟨z,rfl,c⟩
  ·rw[if_neg c]at h ⊢
   by_cases c2:(placeW L line).2=true
   ·rw[if_pos c2]
    obtain⟨y,hy,e⟩:=place_some L c2
    exact⟨y,by simpa using hy,e⟩
   ·rw[if_neg c2]at h;cases h
theorem place_no{line:U}:∀(L:List Wy),(placeW L line).2=false→∀ y∈L,y.line≠line
 | [],_=>by simp
 | z::L,h=>by
  unfold placeW at h
  by_cases c:z.line=line
  ·rw[if_pos c]at h;cases h
  ·rw[if_neg c]at h
   by_cases c2:(placeW L line).2=true
   ·rw[if_pos c2]at h;cases h
   ·intro y hy
    rcases List.mem_cons.1 hy with e|hy
    ·rw[e];exact c
    ·exact place_no L (by simpa using c2) y hy
theorem place_iff{line:U}(L:List Wy):(placeW L line).2=true↔∃ y∈L,y.line=line:=by
 constructor
 ·intro h
  obtain⟨y,hy,e⟩:=place_some L h
  exact⟨y,List.mem_of_getElem? hy,e⟩
 ·rintro⟨y,hy,e⟩
  cases h:(placeW L line).2 with
  | true=>rfl
  | false=>exact absurd e (place_no L h y hy)
structure Sok(n:Nat)(ways:Int)(k:Nat)(s:List Wy):Prop where
 few:(s.length:Int)≤ways
 al:∀ y∈s,y.line.v % 16=0
 no:∀ y∈s,(y.line.v / 16 % (n:Int)).toNat=k
 dat:∀ y∈s,y.data.length=0∨y.data.length=16
 nd:s.Pairwise fun x y=>x.line≠y.line
def RC(c:Ca):Prop:=(c.sets.length=1∨c.sets.length=2∨c.sets.length=4)∧(c.ways=1∨c.ways=2)∧∀ k s,c.sets[k]?=some s→Sok c.sets.length c.ways k s
theorem setOkM_iff(c:Ca)(k:Nat):∀(l b:List Wy),setOk c k b l=true↔(∀ y∈l,lineU y.line=y.line∧setNo c y.line=k∧(y.data.length=0∨y.data.length=16)∧∀ z∈b,z.line≠y.line)∧l.Pairwise fun x y=>x.line≠y.line
 | [],b=>by simp[setOk]
 | y::l,b=>by
  unfold setOk
  rw[Bool.and_eq_true,setOkM_iff c k l (b++[y])]
  unfold wayOk
  simp only[Bool.and_eq_true,Bool.or_eq_true,decide_eq_true_eq,Bool.not_eq_true',List.pairwise_cons,List.mem_cons,forall_eq_or_imp]
  constructor
  ·rintro⟨⟨⟨⟨h1,h2⟩,h3⟩,h4⟩,h5,h6⟩
   refine⟨⟨⟨h1,h2,h3,fun z hz=>place_no b h4 z hz⟩,fun z hz=>?_⟩,⟨fun z hz=>?_,h6⟩⟩
   ·obtain⟨a1,a2,a3,a4⟩:=h5 z hz
    exact⟨a1,a2,a3,fun u hu=>a4 u (by simp[hu])⟩
   ·exact(h5 z hz).2.2.2 y (by simp)
  ·rintro⟨⟨⟨h1,h2,h3,h4⟩,h5⟩,h6,h7⟩
   refine⟨⟨⟨⟨h1,h2⟩,h3⟩,?_⟩,fun z hz=>?_,h7⟩
   ·cases q:(placeW b y.line).2 with
    | false=>rfl
    | true=>
     obtain⟨u,hu,e⟩:=(place_iff b).1 q
     exact absurd e (h4 u hu)
   ·obtain⟨a1,a2,a3,a4⟩:=h5 z hz
    refine⟨a1,a2,a3,fun u hu=>?_⟩
    rcases List.mem_append.1 hu with hu|hu
    ·exact a4 u hu
    ·have:u=y:=by simpa using hu
     rw[this];exact h6 z hz
theorem setOk_sok{c:Ca}{k:Nat}{s:List Wy}:(decide ((s.length:Int)≤c.ways)&&setOk c k [] s)=true↔Sok c.sets.length c.ways k s:=by
 rw[Bool.and_eq_true,decide_eq_true_eq,setOkM_iff]
 constructor
 ·rintro⟨h1,h2,h3⟩
  exact⟨h1,fun y hy=>lineU_eq (h2 y hy).1,fun y hy=>(h2 y hy).2.1,fun y hy=>(h2 y hy).2.2.1,h3⟩
 ·intro h
  exact⟨h.few,fun y hy=>⟨lineU_id (h.al y hy),h.no y hy,h.dat y hy,by simp⟩,h.nd⟩
theorem setsOkM_iff(c:Ca):∀(l:List (List Wy)) (k:Nat),setsOk c k l=true↔∀ i s,l[i]?=some s→Sok c.sets.length c.ways (k+i) s
 | [],k=>by simp[setsOk]
 | s::l,k=>by
  unfold setsOk
  rw[Bool.and_eq_true,setOk_sok,setsOkM_iff c l (k+1)]
  constructor
  ·rintro⟨h1,h2⟩ i t ht
   cases i with
   | zero=>simp only[List.getElem?_cons_zero,Option.some.injEq]at ht;subst ht;exact h1
   | succ i=>rw[show k+(i+1)=k+1+i by omega];exact h2 i t (by simpa using ht)
  ·intro h
   exact⟨h 0 s rfl,fun i t ht=>by rw[show k+1+i=k+(i+1) by omega];exact h (i+1) t (by simpa using ht)⟩
theorem rightC_iff{c:Ca}:rightC c=true↔RC c:=by
 unfold rightC RC
 rw[Bool.and_eq_true,decide_eq_true_eq,setsOkM_iff]
 simp only[Nat.zero_add,and_assoc]
def Has(c:Ca)(y:Wy):Prop:=∃(k:Nat) (s:List Wy),c.sets[k]?=some s∧y∈s
def sn(c:Ca)(u:U):Nat:=(u.v / 16 % (c.sets.length:Int)).toNat
theorem has_iff{c:Ca}{y:Wy}:Has c y↔y∈c.sets.flatten:=by
 unfold Has
 rw[List.mem_flatten]
 constructor
 ·rintro⟨k,s,h1,h2⟩;exact⟨s,List.mem_of_getElem? h1,h2⟩
 ·rintro⟨s,h1,h2⟩
  obtain⟨k,hk⟩:=List.getElem?_of_mem h1
  exact⟨k,s,hk,h2⟩
section
variable {c:Ca}
theorem RC.pos(h:RC c):0<c.sets.length:=by rcases h.1 with e|e|e<;>omega
theorem RC.sn_lt(h:RC c)(u:U):sn c u<c.sets.length:=by
 have h0:=u.lo
 have h1:=h.pos
 unfold sn
 have h2:=Int.emod_lt_of_pos (u.v / 16) (show(0:Int)<(c.sets.length:Int) by omega)
 have h3:=Int.emod_nonneg (u.v / 16) (show((c.sets.length:Int))≠0 by omega)
 omega
theorem RC.at_sn(h:RC c)(u:U):∃ s,c.sets[sn c u]?=some s∧c.sets.getD (sn c u) []=s∧Sok c.sets.length c.ways (sn c u) s:=by
 have hl:=h.sn_lt u
 refine⟨c.sets[sn c u],List.getElem?_eq_getElem hl,?_,h.2.2 _ _ (List.getElem?_eq_getElem hl)⟩
 rw[List.getD_eq_getElem?_getD,List.getElem?_eq_getElem hl];rfl
theorem RC.has_at(h:RC c){y:Wy}(hy:Has c y):∃ s,c.sets[sn c y.line]?=some s∧y∈s:=by
 obtain⟨k,s,h1,h2⟩:=hy
 have:=(h.2.2 k s h1).no y h2
 have e:sn c y.line=k:=this
 exact⟨s,by rw[e];exact h1,h2⟩
theorem RC.uniq(h:RC c){y z:Wy}(hy:Has c y)(hz:Has c z)(e:y.line=z.line):y=z:=by
 obtain⟨s,h1,h2⟩:=h.has_at hy
 obtain⟨t,h3,h4⟩:=h.has_at hz
 rw[e,h3,Option.some.injEq]at h1
 subst h1
 have hn:=(h.2.2 _ _ h3).nd
 obtain⟨i,hi⟩:=List.getElem?_of_mem h2
 obtain⟨j,hj⟩:=List.getElem?_of_mem h4
 rw[List.pairwise_iff_getElem]at hn
 obtain⟨a1,a2⟩:=List.getElem?_eq_some_iff.1 hi
 obtain⟨b1,b2⟩:=List.getElem?_eq_some_iff.1 hj
 rcases Nat.lt_trichotomy i j with q|q|q
 ·have:=hn i j a1 b1 q;rw[a2,b2]at this;exact absurd e this
 ·subst q;rw[hi]at hj;cases hj;rfl
 ·have:=hn j i b1 a1 q;rw[a2,b2]at this;exact absurd e.symm this
theorem RC.al(h:RC c){y:Wy}(hy:Has c y):y.line.v % 16=0:=by
 obtain⟨s,h1,h2⟩:=h.has_at hy
 exact(h.2.2 _ _ h1).al y h2
theorem RC.put(h:RC c)(k:Nat)(hk:k<c.sets.length)(s:List Wy)(hs:Sok c.sets.length c.ways k s):RC (withC c k s)∧∀ y,Has (withC c k s) y↔y∈s∨(Has c y∧sn c y.line≠k):=by
 have hl:(withC c k s).sets.length=c.sets.length:=by simp[withC]
 refine⟨⟨by rw[hl];exact h.1,h.2.1,fun i t ht=>?_⟩,fun y=>?_⟩
 ·rw[hl]
  show Sok _ c.ways _ _
  by_cases e:k=i
  ·subst e
   have:(withC c k s).sets[k]?=some s:=by simp[withC,hk]
   rw[this]at ht;cases ht;exact hs
  ·have:(withC c k s).sets[i]?=c.sets[i]?:=by simp[withC,List.getElem?_set_ne e]
   rw[this]at ht
   exact h.2.2 i t ht
 ·constructor
  ·rintro⟨i,t,ht,hy⟩
   by_cases e:k=i
   ·subst e
    have:(withC c k s).sets[k]?=some s:=by simp[withC,hk]
    rw[this]at ht;cases ht;exact .inl hy
   ·have:(withC c k s).sets[i]?=c.sets[i]?:=by simp[withC,List.getElem?_set_ne e]
    rw[this]at ht
    refine .inr ⟨⟨i,t,ht,hy⟩,?_⟩
    have e2:sn c y.line=i:=(h.2.2 i t ht).no y hy
    omega
  ·rintro(hy|⟨hy,hn⟩)
   ·exact⟨k,s,by simp[withC,hk],hy⟩
   ·obtain⟨t,ht,hm⟩:=h.has_at hy
    exact⟨sn c y.line,t,by simp[withC,List.getElem?_set_ne (Ne.symm hn)];exact ht,hm⟩
end
theorem sok_front{n:Nat}{ways:Int}{k:Nat}{s:List Wy}(h:Sok n ways k s){i:Nat}(hi:i<s.length)(f:Wy→Wy)(hl:∀ y,(f y).line=y.line)(hd:∀ y,y∈s→((f y).data.length=0∨(f y).data.length=16)):Sok n ways k (setHead (frontW s i) f)∧∀ y,y∈setHead (frontW s i) f↔(∃ z,s[i]?=some z∧y=f z)∨(y∈s∧∀ z,s[i]?=some z→y.line≠z.line):=by
 obtain⟨z,hz⟩:∃ z,s[i]?=some z:=⟨_,List.getElem?_eq_getElem hi⟩
 have e:frontW s i=z::(s.take i++s.drop (i+1)):=by unfold frontW;rw[List.getD_eq_getElem?_getD,hz];rfl
 have es:s=s.take i++z::s.drop (i+1):=by
  have hz':=(List.getElem?_eq_some_iff.1 hz).2
  rw[← hz',← List.drop_eq_getElem_cons hi,List.take_append_drop]
 have hnd:(s.take i++z::s.drop (i+1)).Pairwise fun x y=>x.line≠y.line:=by rw[← es];exact h.nd
 rw[List.pairwise_append,List.pairwise_cons]at hnd
 obtain⟨p1,⟨p2,p3⟩,p4⟩:=hnd
 have hzs:z∈s:=List.mem_of_getElem? hz
 have sub:∀ y,y∈s.take i++s.drop (i+1)→y∈s:=fun y hy=>by
  rcases List.mem_append.1 hy with q|q
  ·exact List.mem_of_mem_take q
  ·exact List.mem_of_mem_drop q
 have ne:∀ y,y∈s.take i++s.drop (i+1)→y.line≠z.line:=fun y hy=>by
  rcases List.mem_append.1 hy with q|q
  ·exact p4 y q z mm0
  ·exact Ne.symm (p2 y q)
 rw[e]
 unfold setHead
 refine⟨⟨?_,?_,?_,?_,?_⟩,fun y=>?_⟩
 ·have:=h.few
  have hl2:(f z::(s.take i++s.drop (i+1))).length=s.length:=by simp;omega
  rw[hl2];exact this
 ·intro y hy
  rcases List.mem_cons.1 hy with q|q
  ·rw[q,hl];exact h.al z hzs
  ·exact h.al y (sub y q)
 ·intro y hy
  rcases List.mem_cons.1 hy with q|q
  ·rw[q,hl];exact h.no z hzs
  ·exact h.no y (sub y q)
 ·intro y hy
  rcases List.mem_cons.1 hy with q|q
  ·rw[q];exact hd z hzs
  ·exact h.dat y (sub y q)
 ·rw[List.pairwise_cons]
  refine⟨fun y hy=>by rw[hl];exact Ne.symm (ne y hy),?_⟩
  rw[List.pairwise_append]
  exact⟨p1,p3,fun a ha b hb=>p4 a ha b (List.mem_cons_of_mem _ hb)⟩
 ·rw[List.mem_cons]
  constructor
  ·rintro(q|q)
   ·exact .inl ⟨z,hz,q⟩
   ·exact .inr ⟨sub y q,fun z' hz'=>by rw[hz]at hz';cases hz';exact ne y q⟩
  ·rintro(⟨z',hz',q⟩|⟨q1,q2⟩)
   ·rw[hz]at hz';cases hz';exact .inl q
   ·refine .inr ?_
    rw[es]at q1
    rcases List.mem_append.1 q1 with q|q
    ·exact List.mem_append.2 (.inl q)
    ·rcases List.mem_cons.1 q with q|q
     ·subst q;exact absurd rfl (q2 y hz)
     ·exact List.mem_append.2 (.inr q)
theorem setHead_id(l:List Wy):setHead l id=l:=by cases l<;>rfl
section
variable {c:Ca}
theorem RC.found(h:RC c){line:U}(hf:(findC c line).2.2=true):∃ s y,c.sets[(findC c line).1]?=some s∧c.sets.getD (findC c line).1 []=s∧(findC c line).1<c.sets.length∧Sok c.sets.length c.ways (findC c line).1 s∧s[(findC c line).2.1]?=some y∧y.line=lineU line∧(findC c line).1=sn c (lineU line):=by
 have hr:rightC c=true:=rightC_iff.2 h
 unfold findC at hf ⊢
 rw[if_pos hr]at hf ⊢
 simp only at hf ⊢
 obtain⟨s,h1,h2,h3⟩:=h.at_sn (lineU line)
 have e:setNo c (lineU line)=sn c (lineU line):=rfl
 rw[e]at hf ⊢
 rw[h2]at hf ⊢
 obtain⟨y,hy,hl⟩:=place_some s hf
 exact⟨s,y,h1,rfl,h.sn_lt _,h3,hy,hl,rfl⟩
theorem RC.missed(h:RC c){line:U}(hf:(findC c line).2.2=false):(∀ y,Has c y→y.line≠lineU line)∧(findC c line).1=sn c (lineU line):=by
 have hr:rightC c=true:=rightC_iff.2 h
 unfold findC at hf ⊢
 rw[if_pos hr]at hf ⊢
 simp only at hf ⊢
 refine⟨fun y hy e=>?_,rfl⟩
 obtain⟨s,h1,h2⟩:=h.has_at hy
 rw[e]at h1
 have h3:c.sets.getD (setNo c (lineU line)) []=s:=by
  show c.sets.getD (sn c (lineU line)) []=s
  rw[List.getD_eq_getElem?_getD,h1];rfl
 rw[h3]at hf
 exact place_no s hf y h2 e
theorem RC.turn(h:RC c){line:U}(hf:(findC c line).2.2=true)(f:Wy→Wy)(hl:∀ y,(f y).line=y.line)(hd:∀ y,Has c y→((f y).data.length=0∨(f y).data.length=16)):
 RC (withC c (findC c line).1 (setHead (frontW (c.sets.getD (findC c line).1 []) (findC c line).2.1) f))∧∀ y,Has (withC c (findC c line).1 (setHead (frontW (c.sets.getD (findC c line).1 []) (findC c line).2.1) f)) y↔(∃ z,Has c z∧z.line=lineU line∧y=f z)∨(Has c y∧y.line≠lineU line):=by
 obtain⟨s,y0,h1,h2,h3,h4,h5,h6,h7⟩:=h.found hf
 rw[h2]
 have hi:=(List.getElem?_eq_some_iff.1 h5).1
 obtain⟨q1,q2⟩:=sok_front h4 hi f hl (fun y hy=>hd y ⟨_,s,h1,hy⟩)
 obtain⟨r1,r2⟩:=h.put _ h3 _ q1
 refine⟨r1,fun y=>?_⟩
 rw[r2,q2]
 constructor
 ·rintro((⟨z,hz,e⟩|⟨hy,hn⟩)|⟨hy,hn⟩)
  ·rw[h5]at hz;cases hz
   exact .inl ⟨y0,⟨_,s,h1,List.mem_of_getElem? h5⟩,h6,e⟩
  ·exact .inr ⟨⟨_,s,h1,hy⟩,by rw[← h6];exact hn y0 h5⟩
  ·exact .inr ⟨hy,fun e=>hn (by rw[e,h7])⟩
 ·rintro(⟨z,hz,e1,e2⟩|⟨hy,hn⟩)
  ·have:z=y0:=h.uniq hz ⟨_,s,h1,List.mem_of_getElem? h5⟩ (by rw[e1,h6])
   subst this
   exact .inl (.inl ⟨z,h5,e2⟩)
  ·by_cases e:sn c y.line=(findC c line).1
   ·obtain⟨t,ht,hm⟩:=h.has_at hy
    rw[e,h1]at ht;cases ht
    exact .inl (.inr ⟨hm,fun z hz=>by rw[h5]at hz;cases hz;rw[h6];exact hn⟩)
   ·exact .inr ⟨hy,e⟩
theorem RC.touch(h:RC c)(line:U):RC (touchC c line)∧∀ y,Has (touchC c line) y↔Has c y:=by
 unfold touchC
 simp only
 cases hf:(findC c line).2.2 with
 | false=>exact⟨h,fun y=>Iff.rfl⟩
 | true=>
  rw[if_pos rfl]
  obtain⟨q1,q2⟩:=h.turn hf id (fun _=>rfl) (fun y hy=>by obtain⟨s,a,b⟩:=h.has_at hy;exact(h.2.2 _ _ a).dat y b)
  rw[setHead_id]at q1 q2
  refine⟨q1,fun y=>?_⟩
  rw[q2]
  constructor
  ·rintro(⟨z,hz,_,rfl⟩|⟨hy,_⟩)
   ·exact hz
   ·exact hy
  ·intro hy
   by_cases e:y.line=Go.Proofs.YtdmhfogegfmnfaaGreatDoor.lineU line
   ·exact .inl ⟨y,hy,e,rfl⟩
   ·exact .inr ⟨hy,e⟩
end
theorem sok_sub{n:Nat}{ways:Int}{k:Nat}{s t:List Wy}(h:Sok n ways k s)(hs:t.Sublist s):Sok n ways k t:=
 ⟨by have:=h.few;have:=hs.length_le;omega,fun y hy=>h.al y (hs.subset hy),fun y hy=>h.no y (hs.subset hy),fun y hy=>h.dat y (hs.subset hy),h.nd.sublist hs⟩
theorem sok_cons{n:Nat}{ways:Int}{k:Nat}{s:List Wy}{y:Wy}(h:Sok n ways k s)(hl:((s.length+1:Nat):Int)≤ways)(h1:y.line.v % 16=0)(h2:(y.line.v / 16 % (n:Int)).toNat=k)(h3:y.data.length=0∨y.data.length=16)(h4:∀ z∈s,z.line≠y.line):Sok n ways k (y::s):=
 ⟨by rw[List.length_cons];exact hl,(fun z hz=>(List.mem_cons.1 hz).elim (fun q=>by rw[q];exact h1) (h.al z)),(fun z hz=>(List.mem_cons.1 hz).elim (fun q=>by rw[q];exact h2) (h.no z)),(fun z hz=>(List.mem_cons.1 hz).elim (fun q=>by rw[q];exact h3) (h.dat z)),List.pairwise_cons.2 ⟨fun z hz=>Ne.symm (h4 z hz),h.nd⟩⟩
theorem last_split{s:List Wy}(hs:s≠[]):s=s.take (s.length-1)++[s.getD (s.length-1) wyZ']:=by
 have hl:0<s.length:=List.length_pos_iff.2 hs
 have h1:s[s.length-1]?=some (s.getD (s.length-1) wyZ'):=by
  rw[List.getD_eq_getElem?_getD,List.getElem?_eq_getElem (by omega)];rfl
 have h2:=List.take_add_one (l:=s) (i:=s.length-1)
 rw[show s.length-1+1=s.length by omega,List.take_length,h1]at h2
 exact h2
section
variable {c:Ca}
theorem RC.put_new(h:RC c){line:U}(hf:(findC c line).2.2=false)(data:By)(dirty:Bool)(hd:data.length=0∨data.length=16):
 RC (putC c line data dirty).1∧(∀ y,Has (putC c line data dirty).1 y↔y=⟨lineU line,dirty,data⟩∨(Has c y∧((putC c line data dirty).2.2=true→y.line≠(putC c line data dirty).2.1.line)))∧
  ((putC c line data dirty).2.2=true→Has c (putC c line data dirty).2.1)∧(∀ y,Has c y→y.line≠lineU line):=by
 obtain⟨hm,hk⟩:=h.missed hf
 obtain⟨s,h1,h2,h3⟩:=h.at_sn (lineU line)
 have hr:rightC c=true:=rightC_iff.2 h
 have hdd:(if data.length≠16 then []else data)=data:=by
  rcases hd with q|q
  ·rw[if_pos (by omega)];exact(List.eq_nil_of_length_eq_zero q).symm
  ·rw[if_neg (by omega)]
 have hw:1≤c.ways:=by rcases h.2.1 with q|q<;>omega
 have hns:∀ z∈s,z.line≠lineU line:=fun z hz=>hm z ⟨_,s,h1,hz⟩
 have e:putC c line data dirty=(withC c (sn c (lineU line)) (⟨lineU line,dirty,data⟩::(if decide ((s.length:Int)=c.ways)=true then s.take (s.length-1)else s)),(if decide ((s.length:Int)=c.ways)=true then s.getD (s.length-1) wyZ' else wyZ'),decide ((s.length:Int)=c.ways)):=by
  unfold putC
  rw[if_pos hr]
  simp only[hdd,hf,hk,h2]
  rfl
 rw[e]
 by_cases hfull:(s.length:Int)=c.ways
 ·have hne:s≠[]:=by intro q;rw[q]at hfull;simp at hfull;omega
  have hsp:=last_split hne
  have hnd:=h3.nd
  rw[hsp,List.pairwise_append]at hnd
  simp only[hfull,decide_true,if_true]
  obtain⟨r1,r2⟩:=h.put _ (h.sn_lt (lineU line)) (⟨lineU line,dirty,data⟩::s.take (s.length-1)) (sok_cons (sok_sub h3 (List.take_sublist _ _)) (by rw[List.length_take];have:=List.length_pos_iff.2 hne;omega) (lineU_al line) rfl hd (fun z hz=>hns z (List.mem_of_mem_take hz)))
  have hlast:s.getD (s.length-1) wyZ'∈s:=by
   have:s.getD (s.length-1) wyZ'∈s.take (s.length-1)++[s.getD (s.length-1) wyZ']:=List.mem_append.2 (.inr (List.mem_singleton.2 rfl))
   rw[← hsp]at this
   exact this
  refine⟨r1,fun y=>?_,fun _=>⟨_,s,h1,hlast⟩,hm⟩
  rw[r2,List.mem_cons]
  constructor
  ·rintro((q|q)|⟨q1,q2⟩)
   ·exact .inl q
   ·exact .inr ⟨⟨_,s,h1,List.mem_of_mem_take q⟩,fun _=>hnd.2.2 y q _ (List.mem_singleton.2 rfl)⟩
   ·refine .inr ⟨q1,fun _ e2=>q2 ?_⟩
    have:y=s.getD (s.length-1) wyZ':=h.uniq q1 ⟨_,s,h1,hlast⟩ e2
    rw[this]
    exact h3.no _ hlast
  ·rintro(q|⟨q1,q2⟩)
   ·exact .inl (.inl q)
   ·by_cases e3:sn c y.line=sn c (lineU line)
    ·obtain⟨t,ht,hmm⟩:=h.has_at q1
     rw[e3,h1]at ht;cases ht
     rw[hsp]at hmm
     rcases List.mem_append.1 hmm with q|q
     ·exact .inl (.inr q)
     ·have:=List.mem_singleton.1 q
      exact absurd (by rw[this]) (q2 trivial)
    ·exact .inr ⟨q1,e3⟩
 ·simp only[hfull,decide_false,Bool.false_eq_true,if_false,false_implies]
  have hlt:((s.length+1:Nat):Int)≤c.ways:=by have:=h3.few;omega
  obtain⟨r1,r2⟩:=h.put _ (h.sn_lt (lineU line)) (⟨lineU line,dirty,data⟩::s) (sok_cons h3 hlt (lineU_al line) rfl hd hns)
  refine⟨r1,fun y=>?_,trivial,hm⟩
  rw[r2,List.mem_cons]
  constructor
  ·rintro((q|q)|⟨q1,q2⟩)
   ·exact .inl q
   ·exact .inr ⟨⟨_,s,h1,q⟩,trivial⟩
   ·exact .inr ⟨q1,trivial⟩
  ·rintro(q|⟨q1,_⟩)
   ·exact .inl (.inl q)
   ·by_cases e3:sn c y.line=sn c (lineU line)
    ·obtain⟨t,ht,hmm⟩:=h.has_at q1
     rw[e3,h1]at ht;cases ht
     exact .inl (.inr hmm)
    ·exact .inr ⟨q1,e3⟩
theorem RC.put_old(h:RC c){line:U}(hf:(findC c line).2.2=true)(data:By)(dirty:Bool):
 RC (putC c line data dirty).1∧(∀ y,Has (putC c line data dirty).1 y→∃ z,Has c z∧z.line=y.line∧(y.dirty=true→z.dirty=true∨dirty=true))∧(putC c line data dirty).2.2=false:=by
 have hr:rightC c=true:=rightC_iff.2 h
 have e:putC c line data dirty=(withC c (findC c line).1 (setHead (frontW (c.sets.getD (findC c line).1 []) (findC c line).2.1) fun y=>{ y with data:=if(if data.length≠16 then []else data)≠[]then(if data.length≠16 then []else data)else y.data,dirty:=y.dirty||dirty }),wyZ',false):=by
  unfold putC
  rw[if_pos hr]
  simp only[hf,if_true]
 rw[e]
 obtain⟨q1,q2⟩:=h.turn hf (fun y=>{ y with data:=if(if data.length≠16 then []else data)≠[]then(if data.length≠16 then []else data)else y.data,dirty:=y.dirty||dirty }) (fun _=>rfl) (fun y hy=>by
  obtain⟨s,a,b⟩:=h.has_at hy
  have:=(h.2.2 _ _ a).dat y b
  by_cases q:data.length=16
  ·simp only[q,ne_eq,not_true_eq_false,if_false]
   split
   ·exact .inr q
   ·exact this
  ·simp only[ne_eq,q,not_false_eq_true,if_true,not_true_eq_false,if_false]
   exact this)
 refine⟨q1,fun y hy=>?_,rfl⟩
 rcases(q2 y).1 hy with⟨z,hz,hl,rfl⟩|⟨hz,_⟩
 ·exact⟨z,hz,rfl,fun hd=>by simpa using hd⟩
 ·exact⟨y,hz,rfl,.inl⟩
end
theorem sok_set{n:Nat}{ways:Int}{k i:Nat}{s:List Wy}{z y':Wy}(h:Sok n ways k s)(hz:s[i]?=some z)(hl:y'.line=z.line)(hd:y'.data.length=0∨y'.data.length=16):Sok n ways k (s.set i y')∧∀ y,y∈s.set i y'↔y=y'∨(y∈s∧y.line≠z.line):=by
 obtain⟨hi,hz'⟩:=List.getElem?_eq_some_iff.1 hz
 have es:s=s.take i++z::s.drop (i+1):=by rw[← hz',← List.drop_eq_getElem_cons hi,List.take_append_drop]
 have et:s.set i y'=s.take i++y'::s.drop (i+1):=by rw[List.set_eq_take_append_cons_drop,if_pos hi]
 have hnd:=h.nd
 rw[es,List.pairwise_append,List.pairwise_cons]at hnd
 obtain⟨p1,⟨p2,p3⟩,p4⟩:=hnd
 have hzs:z∈s:=List.mem_of_getElem? hz
 have mm:∀ y,y∈s.set i y'↔y=y'∨(y∈s∧y.line≠z.line):=fun y=>by
  rw[et]
  constructor
  ·intro hy
   rcases List.mem_append.1 hy with q|q
   ·exact .inr ⟨List.mem_of_mem_take q,p4 y q z mm0⟩
   ·rcases List.mem_cons.1 q with q|q
    ·exact .inl q
    ·exact .inr ⟨List.mem_of_mem_drop q,Ne.symm (p2 y q)⟩
  ·rintro(q|⟨q1,q2⟩)
   ·rw[q];exact List.mem_append.2 (.inr mm0)
   ·rw[es]at q1
    rcases List.mem_append.1 q1 with q|q
    ·exact List.mem_append.2 (.inl q)
    ·rcases List.mem_cons.1 q with q|q
     ·rw[q]at q2;exact absurd rfl q2
     ·exact List.mem_append.2 (.inr (List.mem_cons_of_mem _ q))
 refine⟨⟨by rw[List.length_set];exact h.few,fun y hy=>?_,fun y hy=>?_,fun y hy=>?_,?_⟩,mm⟩
 ·rcases(mm y).1 hy with q|⟨q,_⟩
  ·rw[q,hl];exact h.al z hzs
  ·exact h.al y q
 ·rcases(mm y).1 hy with q|⟨q,_⟩
  ·rw[q,hl];exact h.no z hzs
  ·exact h.no y q
 ·rcases(mm y).1 hy with q|⟨q,_⟩
  ·rw[q];exact hd
  ·exact h.dat y q
 ·rw[et,List.pairwise_append,List.pairwise_cons]
  refine⟨p1,⟨fun y hy=>by rw[hl];exact p2 y hy,p3⟩,fun a ha b hb=>?_⟩
  rcases List.mem_cons.1 hb with q|q
  ·rw[q,hl];exact p4 a ha z mm0
  ·exact p4 a ha b (List.mem_cons_of_mem _ q)
section
variable {c:Ca}
theorem RC.dat(h:RC c){y:Wy}(hy:Has c y):y.data.length=0∨y.data.length=16:=by
 obtain⟨s,a,b⟩:=h.has_at hy
 exact(h.2.2 _ _ a).dat y b
theorem RC.write(h:RC c){a:U}{b:By}(hw:(writeC c a b).2=true):RC (writeC c a b).1∧∀ y,Has (writeC c a b).1 y→Has c y∨(y.dirty=true∧y.data.length=16∧∃ z,Has c z∧z.line=y.line∧z.data.length=16):=by
 cases hf:(findC c a).2.2 with
 | false=>
  unfold writeC at hw
  simp only[hf,Bool.false_eq_true,if_false]at hw
 | true=>
  obtain⟨s,y0,h1,h2,h3,h4,h5,h6,h7⟩:=h.found hf
  have hg:s.getD (findC c a).2.1 wyZ'=y0:=by rw[List.getD_eq_getElem?_getD,h5];rfl
  have hy0:Has c y0:=⟨_,s,h1,List.mem_of_getElem? h5⟩
  have e:writeC c a b=if y0.data=[]∨16-(((a.v-(lineU a).v).toNat:Nat):Int)<b.length then(c,false)else(withC c (findC c a).1 (setHead (frontW s (findC c a).2.1) fun y=>{ y with data:=y0.data.take (a.v-(lineU a).v).toNat++b++y0.data.drop ((a.v-(lineU a).v).toNat+b.length),dirty:=true }),true):=by
   unfold writeC
   simp only[hf,if_true,h2,hg]
  rw[e]at hw ⊢
  by_cases hn:y0.data=[]∨16-(((a.v-(lineU a).v).toNat:Nat):Int)<b.length
  ·rw[if_pos hn]at hw;cases hw
  ·rw[if_neg hn]
   have hl0:y0.data.length=16:=by
    rcases h.dat hy0 with q|q
    ·exact absurd (.inl (List.eq_nil_of_length_eq_zero q)) hn
    ·exact q
   have hlen:(y0.data.take (a.v-(lineU a).v).toNat++b++y0.data.drop ((a.v-(lineU a).v).toNat+b.length)).length=16:=by
    have:¬ 16-(((a.v-(lineU a).v).toNat:Nat):Int)<b.length:=fun q=>hn (.inr q)
    simp only[List.length_append,List.length_take,List.length_drop]
    omega
   generalize hnd:y0.data.take (a.v-(lineU a).v).toNat++b++y0.data.drop ((a.v-(lineU a).v).toNat+b.length)=nd at hlen
   obtain⟨q1,q2⟩:=h.turn hf (fun y=>{ y with data:=nd,dirty:=true }) (fun _=>rfl) (fun y _=>.inr hlen)
   rw[h2]at q1 q2
   refine⟨q1,fun y hy=>?_⟩
   rcases(q2 y).1 hy with⟨z,hz,hl,rfl⟩|⟨hz,_⟩
   ·have:z=y0:=h.uniq hz hy0 (by rw[hl,h6])
    subst this
    exact .inr ⟨rfl,hlen,z,hz,rfl,hl0⟩
   ·exact .inl hz
theorem RC.clean(h:RC c)(line:U):RC (cleanC c line)∧∀ y,Has (cleanC c line) y→Has c y∧y.line≠lineU line∨∃ z,Has c z∧z.line=lineU line∧y={ z with dirty:=false }:=by
 unfold cleanC
 simp only
 cases hf:(findC c line).2.2 with
 | false=>exact⟨h,fun y hy=>.inl ⟨hy,(h.missed hf).1 y hy⟩⟩
 | true=>
  rw[if_pos rfl]
  obtain⟨s,y0,h1,h2,h3,h4,h5,h6,h7⟩:=h.found hf
  have hy0:Has c y0:=⟨_,s,h1,List.mem_of_getElem? h5⟩
  rw[h2,show s.getD (findC c line).2.1 wyZ'=y0 by rw[List.getD_eq_getElem?_getD,h5];rfl]
  obtain⟨q1,q2⟩:=sok_set (y':={ y0 with dirty:=false }) h4 h5 rfl (show y0.data.length=0∨y0.data.length=16 from h.dat hy0)
  obtain⟨r1,r2⟩:=h.put _ h3 _ q1
  refine⟨r1,fun y hy=>?_⟩
  rcases(r2 y).1 hy with q|⟨q,hn⟩
  ·rcases(q2 y).1 q with q|⟨q,hn⟩
   ·exact .inr ⟨y0,hy0,h6,q⟩
   ·exact .inl ⟨⟨_,s,h1,q⟩,by rw[← h6];exact hn⟩
  ·exact .inl ⟨q,fun e=>hn (by rw[e,h7])⟩
theorem RC.dirty(h:RC c)(hd:(dirtyC c).2=true):Has c (dirtyC c).1∧(dirtyC c).1.dirty=true:=by
 unfold dirtyC at hd ⊢
 rw[if_pos (rightC_iff.2 h)]at hd ⊢
 cases hq:c.sets.flatten.find? (·.dirty)with
 | none=>rw[hq]at hd;cases hd
 | some y=>
  simp only
  exact⟨has_iff.2 (List.mem_of_find?_eq_some hq),List.find?_some hq⟩
theorem new_rc(sets ways:Int):RC (newC sets ways)∧∀ y,¬ Has (newC sets ways) y:=by
 have hn:∀ y,¬ Has (newC sets ways) y:=by
  rintro y ⟨k,s,h1,h2⟩
  have:s=[]:=List.eq_of_mem_replicate (List.mem_of_getElem? h1)
  subst this
  cases h2
 refine⟨⟨?_,?_,fun k s hs=>?_⟩,hn⟩
 ·unfold newC
  simp only[List.length_replicate]
  split<;>split<;>(try split)<;>omega
 ·unfold newC
  simp only
  split
  ·exact .inl rfl
  ·split
   ·exact .inr rfl
   ·omega
 ·have:s=[]:=List.eq_of_mem_replicate (List.mem_of_getElem? hs)
  subst this
  exact⟨by unfold newC;simp only[List.length_nil];split<;>(try split)<;>omega,(fun y hy=>by cases hy),(fun y hy=>by cases hy),(fun y hy=>by cases hy),List.Pairwise.nil⟩
end
def EOk(n:Nat)(e:En):Prop:=(kd e.i.op=3∨kd e.i.op=4)→(e.known=true→okAt n e.addr (sz e.i.op)=true)∧(e.is≠0→e.known=true∨e.halt≠0)
structure Inv(c:Co):Prop where
 m16:c.mem.length % 16=0
 rc:RC c.data
 ln:∀ y,Has c.data y→Ln c.mem.length y.line∧y.data.length=16∧(y.dirty=false→y.data=cutM (belowM c.bus c.mem) y.line)
 wr:RC c.words
 wd:∀ y,Has c.words y→y.dirty=false
 bus:∀ r∈c.bus,(r.kind=3→Ln c.mem.length r.line)∧(r.kind=4→Ln c.mem.length r.line∧r.data.length=16)
 rob:∀ e∈c.rob,EOk c.mem.length e
 sto:∀ p∈c.stores,okAt c.mem.length p.addr p.data.length=true
theorem Inv.of{c x:Co}(h:Inv c)(h1:x.mem=c.mem)(h2:x.data=c.data)(h3:x.words=c.words)(h4:x.bus=c.bus)(h5:∀ e∈x.rob,EOk c.mem.length e)(h6:∀ p∈x.stores,okAt c.mem.length p.addr p.data.length=true):Inv x:=
 ⟨by rw[h1];exact h.m16,by rw[h2];exact h.rc,by rw[h1,h2,h4];exact h.ln,by rw[h3];exact h.wr,by rw[h3];exact h.wd,by rw[h1,h4];exact h.bus,by rw[h1];exact h5,by rw[h1];exact h6⟩
theorem ln_of{n:Nat}{a:U}{s:Int}(hn:n % 16=0)(h:okAt n a s=true):Ln n (lineU a):=by
 unfold okAt at h
 simp only[decide_eq_true_eq]at h
 obtain⟨h1,_,h2,h3⟩:=h
 have h0:=a.lo
 refine⟨lineU_al a,?_⟩
 rw[lineU_v]
 omega
theorem ln_id{n:Nat}{u:U}(h:Ln n u):lineU u=u:=lineU_id h.1
theorem below_len(q:List Rq)(m:By):(belowM q m).length=m.length:=ov_len _ _
theorem below_push(q:List Rq)(kind:Int)(line:U)(left:Int)(data:By)(m:By):belowM (pushQ q kind line left data) m=if kind=4 then overM (belowM q m) [⟨line,data⟩]else belowM q m:=by
 unfold belowM pushQ writesQ
 rw[List.filter_append,List.map_append,ov_app]
 by_cases h:kind=4
 ·rw[if_pos h];simp[h]
 ·rw[if_neg h];simp[h,overM]
theorem cut_put_ne{M:By}{L u:U}{D:By}(hu:Ln M.length u)(hL:L.v % 16=0)(hD:D.length=16)(hne:u≠L):cutM (overM M [⟨L,D⟩]) u=cutM M u:=by
 refine cut_congr hu (ov_len _ _) fun j hj=>?_
 have h1:=hu.1
 have h2:=hu.2
 have h3:=u.lo
 have h4:=L.lo
 have h5:u.v≠L.v:=fun e=>hne (U.eq_of e)
 rw[ov_at _ _ _ (by omega)]
 show((none:Option UInt8).or (bt1 ⟨L,D⟩ (u.v.toNat+j))).or _=_
 have:bt1 ⟨L,D⟩ (u.v.toNat+j)=none:=by
  unfold bt1
  simp only
  split
  ·exact List.getElem?_eq_none (by omega)
  ·rfl
 rw[this];rfl
theorem cut_put_eq{M:By}{L:U}{D:By}(hL:Ln M.length L)(hD:D.length=16):cutM (overM M [⟨L,D⟩]) L=D:=by
 symm
 have h1:=hL.1
 have h2:=hL.2
 have h3:=L.lo
 refine cut_eq (m:=overM M [⟨L,D⟩]) (by rw[ov_len];exact hL) hD fun j hj=>?_
 rw[ov_at _ _ _ (by omega)]
 show D[j]?=((none:Option UInt8).or (bt1 ⟨L,D⟩ (L.v.toNat+j))).or _
 unfold bt1
 simp only
 rw[if_pos (by omega),show L.v.toNat+j-L.v.toNat=j by omega,List.getElem?_eq_getElem (by omega)]
 rfl
theorem Inv.ask{c:Co}(h:Inv c)(kind:Int)(line:U)(h3:kind=3→Ln c.mem.length line)(h4:kind≠4):Inv (askC c kind line []):=by
 have hb:belowM (askC c kind line []).bus c.mem=belowM c.bus c.mem:=by
  show belowM (pushQ c.bus kind line (latF c.conf c.asked) []) c.mem=_
  rw[below_push,if_neg h4]
 refine⟨h.m16,h.rc,fun y hy=>?_,h.wr,h.wd,fun r hr=>?_,h.rob,h.sto⟩
 ·show _∧_∧(_→_=cutM (belowM (askC c kind line []).bus c.mem) y.line)
  rw[hb];exact h.ln y hy
 ·rcases List.mem_append.1 (show r∈c.bus++[_]from hr)with q|q
  ·exact h.bus r q
  ·rw[List.mem_singleton.1 q]
   exact⟨fun e=>h3 e,fun e=>absurd e h4⟩
theorem Inv.setE{c:Co}(h:Inv c)(i:Nat){e:En}(he:EOk c.mem.length e):Inv (setE c i e):=
 h.of rfl rfl rfl rfl (fun x hx=>by
  rcases List.mem_or_eq_of_mem_set (show x∈c.rob.set i e from hx)with q|q
  ·exact h.rob x q
  ·rw[q];exact he) h.sto
theorem Inv.bring{c:Co}(h:Inv c){line:U}(hl:Ln c.mem.length (lineU line)):Inv (bringC c line):=by
 have hr:rightC c.data=true:=rightC_iff.2 h.rc
 have hid:lineU (lineU line)=lineU line:=lineU_idem line
 cases hf:(findC c.data (lineU line)).2.2 with
 | true=>
  have e:bringC c line={ c with data:=touchC c.data (lineU line) }:=by
   unfold bringC bringQ
   rw[if_pos hr,if_pos hf]
   rfl
  obtain⟨q1,q2⟩:=h.rc.touch (lineU line)
  rw[e]
  exact⟨h.m16,q1,fun y hy=>h.ln y ((q2 y).1 hy),h.wr,h.wd,h.bus,h.rob,h.sto⟩
 | false=>
  have hbl:Ln (belowM c.bus c.mem).length (lineU line):=by rw[below_len];exact hl
  obtain⟨q1,q2,q3,q4⟩:=h.rc.put_new hf (cutM (belowM c.bus c.mem) (lineU line)) false (.inr (cut_len hbl))
  rw[hid]at q2 q4
  obtain⟨pc,pw,pb,hp⟩:∃ pc pw pb,putC c.data (lineU line) (cutM (belowM c.bus c.mem) (lineU line)) false=(pc,pw,pb):=⟨_,_,_,rfl⟩
  rw[hp]at q1 q2 q3
  simp only at q1 q2 q3
  by_cases hcase:(pb&&pw.dirty&&!decide (pw.data=[]))=true
  ·have e:bringC c line={ c with data:=pc,bus:=pushQ c.bus 4 pw.line (latF c.conf c.asked) pw.data,asked:=wrap64 (c.asked+1) }:=by
    unfold bringC bringQ
    rw[if_pos hr,if_neg (by rw[hf];simp)]
    simp only[hp,hcase,if_true]
   simp only[Bool.and_eq_true]at hcase
   obtain⟨⟨c1,c2⟩,c3⟩:=hcase
   obtain⟨g1,g2,g3⟩:=h.ln pw (q3 c1)
   have hb:belowM (pushQ c.bus 4 pw.line (latF c.conf c.asked) pw.data) c.mem=overM (belowM c.bus c.mem) [⟨pw.line,pw.data⟩]:=by rw[below_push,if_pos rfl]
   rw[e]
   refine⟨h.m16,q1,fun y hy=>?_,h.wr,h.wd,fun r hr'=>?_,h.rob,h.sto⟩
   ·show _∧_∧(_→_=cutM (belowM (pushQ c.bus 4 pw.line (latF c.conf c.asked) pw.data) c.mem) y.line)
    rw[hb]
    rcases(q2 y).1 hy with rfl|⟨r1,r2⟩
    ·refine⟨hl,cut_len hbl,fun _=>?_⟩
     exact(cut_put_ne hbl g1.1 g2 (Ne.symm (q4 pw (q3 c1)))).symm
    ·obtain⟨s1,s2,s3⟩:=h.ln y r1
     refine⟨s1,s2,fun hd=>?_⟩
     rw[cut_put_ne (by rw[below_len];exact s1) g1.1 g2 (r2 c1)]
     exact s3 hd
   ·rcases List.mem_append.1 (show r∈c.bus++[_]from hr')with q|q
    ·exact h.bus r q
    ·rw[List.mem_singleton.1 q]
     exact⟨fun(q:(4:Int)=3)=>absurd q (by decide),fun _=>⟨g1,g2⟩⟩
  ·have e:bringC c line={ c with data:=pc }:=by
    unfold bringC bringQ
    rw[if_pos hr,if_neg (by rw[hf];simp)]
    simp only[hp,if_neg hcase]
    rfl
   rw[e]
   refine⟨h.m16,q1,fun y hy=>?_,h.wr,h.wd,h.bus,h.rob,h.sto⟩
   rcases(q2 y).1 hy with rfl|⟨r1,r2⟩
   ·exact⟨hl,cut_len hbl,fun _=>rfl⟩
   ·exact h.ln y r1
theorem eok_go{n:Nat}{e:En}(h:EOk n e):EOk n (goE e):=by
 unfold goE
 split
 ·exact h
 ·rename_i h1
  split
  ·intro hk
   have hk':kd e.i.op=3∨kd e.i.op=4:=hk
   obtain⟨a,b⟩:=h hk'
   have h5:¬ (kd e.i.op=5∧e.halt=0):=by omega
   have hb:=b (by omega)
   refine⟨fun q=>a (by simpa only[if_neg h5] using q),fun _=>?_⟩
   simp only[if_neg h5]
   exact hb
  ·intro hk
   obtain⟨a,b⟩:=h hk
   exact⟨a,b⟩
theorem eok_take{n:Nat}{e:En}(h:EOk n e)(b:By):EOk n (takeE e b):=by
 unfold takeE
 split
 ·exact h
 ·rename_i h1
  intro hk
  obtain⟨p,q⟩:=h hk
  have hkn:e.known=true:=by
   cases q:e.known with
   | true=>rfl
   | false=>exact absurd (.inr (.inl q)) h1
  exact⟨p,fun _=>.inl hkn⟩
theorem eok_store{n:Nat}{e:En}(h:EOk n e)(b:U):EOk n (storeE e b):=by
 unfold storeE
 split
 ·exact h
 ·rename_i h1
  intro hk
  obtain⟨p,q⟩:=h hk
  have hkn:e.known=true:=by
   cases q:e.known with
   | true=>rfl
   | false=>exact absurd (.inr (.inl q)) h1
  exact⟨p,fun _=>.inl hkn⟩
theorem eok_addr{n:Nat}{e:En}(h:EOk n e)(a:U):EOk n (addrE e n a):=by
 unfold addrE
 split
 ·exact h
 ·split
  ·rename_i h2
   exact fun _=>⟨fun _=>h2,fun _=>.inl rfl⟩
  ·rename_i h1 h2
   intro hk
   refine⟨fun q=>?_,fun _=>.inr ?_⟩
   ·have:e.known=true:=q
    exact absurd (.inr (.inr this)) h1
   ·show(if kd e.i.op=4 then(5:Int)else 4)≠0
    split<;>decide
theorem eok_start{n:Nat}{e:En}(h:EOk n e)(a b:U):EOk n (startE e a b):=by
 unfold startE
 split
 ·exact h
 ·rename_i h1
  have hno:¬ (kd e.i.op=3∨kd e.i.op=4):=fun q=>h1 (.inr q)
  have key:∀ x:En,x.i=e.i→EOk n x:=fun x hx hk=>absurd (by rw[hx]at hk;exact hk) hno
  simp only
  repeat' split
  all_goals exact key _ rfl
theorem eok_is2{n:Nat}{e:En}(h:EOk n e)(hk:e.known=true):EOk n { e with is:=2 }:=fun q=>⟨(h q).1,fun _=>.inl hk⟩
theorem eok_fill{n:Nat}{e:En}(h:EOk n e):EOk n { e with filled:=true }:=h
theorem eok_guess{n:Nat}{e:En}(h:EOk n e)(u:U):EOk n { e with guess:=u }:=h
theorem eok_new(n:Nat)(no:Int)(f:Fe)(prog:List U):EOk n (newE no f prog):=by
 unfold newE
 simp only
 split
 ·exact fun hk=>absurd (show kd 0=3∨kd 0=4 from hk) (by decide)
 ·split
  ·exact fun hk=>absurd (show kd 0=3∨kd 0=4 from hk) (by decide)
  ·intro _
   refine⟨fun q=>Bool.noConfusion q,fun q=>?_⟩
   right
   simp only at q ⊢
   intro h0
   rw[h0]at q
   simp at q
theorem getD_mem{L:List En}{i:Nat}(hi:i<L.length)(d:En):L.getD i d∈L:=by
 rw[List.getD_eq_getElem?_getD,List.getElem?_eq_getElem hi]
 exact List.getElem_mem hi
theorem Inv.ticks{c:Co}(h:Inv c):Inv (ticksC c):=by
 obtain⟨q,d,ok,ht⟩:∃ q d ok,tickQ c.bus=(q,d,ok):=⟨_,_,_,rfl⟩
 have key:(ok=false→∃ r l,c.bus=r::l∧q={ r with left:=wrap64 (r.left-1) }::l∨c.bus=[]∧q=[])∧(ok=true→∃ r,c.bus=r::q∧d={ r with left:=wrap64 (r.left-1) }):=by
  cases hb:c.bus with
  | nil=>
   rw[hb]at ht
   unfold tickQ at ht
   cases ht
   exact⟨fun _=>⟨default,[],.inr ⟨rfl,rfl⟩⟩,fun e=>by cases e⟩
  | cons r l=>
   rw[hb]at ht
   unfold tickQ at ht
   simp only at ht
   split at ht
   ·cases ht;exact⟨fun _=>⟨r,l,.inl ⟨rfl,rfl⟩⟩,fun e=>by cases e⟩
   ·cases ht;exact⟨fun e=>(by cases e),fun _=>⟨r,rfl,rfl⟩⟩
 have tick_eq:ticksC c=if ok=false then { c with bus:=q } else if d.kind=1 then { c with bus:=q,rob:=c.rob.map (fillE { c with bus:=q } d.line) } else if d.kind=2 then { c with bus:=q,words:=(putC c.words d.line [] false).1 } else if d.kind=3 then bringC { c with bus:=q } d.line else if d.kind=4 then { c with bus:=q,mem:=overM c.mem [⟨d.line,d.data⟩] } else { c with bus:=q }:=by
  unfold ticksC
  simp only[ht]
 rw[tick_eq]
 cases ok with
 | false=>
  rw[if_pos rfl]
  obtain⟨r,l,⟨e1,e2⟩|⟨e1,e2⟩⟩:=key.1 rfl
  ·have hw:writesQ q=writesQ c.bus:=by
    rw[e1,e2]
    unfold writesQ
    by_cases hk:r.kind=4<;>simp[hk]
   refine⟨h.m16,h.rc,fun y hy=>?_,h.wr,h.wd,fun x hx=>?_,h.rob,h.sto⟩
   ·show _∧_∧(_→_=cutM (belowM q c.mem) y.line)
    unfold belowM
    rw[hw]
    exact h.ln y hy
   ·rw[e2]at hx
    rcases List.mem_cons.1 hx with z|z
    ·rw[z];exact h.bus r (by rw[e1];exact List.mem_cons_self ..)
    ·exact h.bus x (by rw[e1];exact List.mem_cons_of_mem _ z)
  ·have:({ c with bus:=q }:Co)=c:=by rw[e2,← e1]
   rw[this]
   exact h
 | true=>
  rw[if_neg (by simp)]
  obtain⟨r,e1,e2⟩:=key.2 rfl
  have hrm:r∈c.bus:=by rw[e1];exact List.mem_cons_self ..
  obtain⟨b3,b4⟩:=h.bus r hrm
  have hbus:∀ x∈q,(x.kind=3→Ln c.mem.length x.line)∧(x.kind=4→Ln c.mem.length x.line∧x.data.length=16):=fun x hx=>h.bus x (by rw[e1];exact List.mem_cons_of_mem _ hx)
  have hno:d.kind≠4→belowM q c.mem=belowM c.bus c.mem:=fun hk=>by
   have hk':r.kind≠4:=by rw[e2]at hk;exact hk
   unfold belowM writesQ
   rw[e1]
   simp[hk']
  have base:d.kind≠4→Inv { c with bus:=q }:=fun hk=>⟨h.m16,h.rc,fun y hy=>by
   show _∧_∧(_→_=cutM (belowM q c.mem) y.line)
   rw[hno hk];exact h.ln y hy,h.wr,h.wd,hbus,h.rob,h.sto⟩
  split
  ·rename_i hk
   have hb:=base (by omega)
   refine hb.of rfl rfl rfl rfl (fun e he=>?_) hb.sto
   obtain⟨x,hx,rfl⟩:=List.mem_map.1 (show e∈c.rob.map _ from he)
   unfold fillE
   split
   ·exact eok_take (eok_fill (h.rob x hx)) _
   ·exact h.rob x hx
  ·split
   ·rename_i hk
    have hb:=base (by omega)
    have hw:RC (putC c.words d.line [] false).1∧∀ y,Has (putC c.words d.line [] false).1 y→y.dirty=false:=by
     cases hf:(findC c.words d.line).2.2 with
     | true=>
      obtain⟨q1,q2,_⟩:=h.wr.put_old hf [] false
      refine⟨q1,fun y hy=>?_⟩
      obtain⟨z,hz,_,hd⟩:=q2 y hy
      cases hdy:y.dirty with
      | false=>rfl
      | true=>
       rcases hd hdy with q|q
       ·rw[h.wd z hz]at q;cases q
       ·cases q
     | false=>
      obtain⟨q1,q2,_⟩:=h.wr.put_new hf [] false (.inl rfl)
      refine⟨q1,fun y hy=>?_⟩
      rcases(q2 y).1 hy with rfl|⟨hz,_⟩
      ·rfl
      ·exact h.wd y hz
    exact⟨hb.m16,hb.rc,hb.ln,hw.1,hw.2,hb.bus,hb.rob,hb.sto⟩
   ·split
    ·rename_i hk
     have hb:=base (by omega)
     have hl:Ln c.mem.length d.line:=by rw[e2];exact b3 (by rw[e2]at hk;exact hk)
     exact hb.bring (c:={ c with bus:=q }) (line:=d.line) (by rw[ln_id hl];exact hl)
    ·split
     ·rename_i hk
      obtain⟨l1,l2⟩:Ln c.mem.length d.line∧d.data.length=16:=by rw[e2];exact b4 (by rw[e2]at hk;exact hk)
      have hml:(overM c.mem [⟨d.line,d.data⟩]).length=c.mem.length:=ov_len _ _
      have hbl:belowM q (overM c.mem [⟨d.line,d.data⟩])=belowM c.bus c.mem:=by
       have hk':r.kind=4:=by rw[e2]at hk;exact hk
       unfold belowM
       rw[e1]
       have:writesQ (r::q)=⟨d.line,d.data⟩::writesQ q:=by unfold writesQ;simp[hk',e2]
       rw[this,ov_cons]
       rfl
      refine⟨by show(overM c.mem [⟨d.line,d.data⟩]).length % 16=0;rw[hml];exact h.m16,h.rc,fun y hy=>?_,h.wr,h.wd,fun x hx=>?_,fun e he=>?_,fun p hp=>?_⟩
      ·show Ln (overM c.mem [⟨d.line,d.data⟩]).length _∧_∧(_→_=cutM (belowM q (overM c.mem [⟨d.line,d.data⟩])) y.line)
       rw[hml,hbl];exact h.ln y hy
      ·show(_→Ln (overM c.mem [⟨d.line,d.data⟩]).length _)∧(_→Ln (overM c.mem [⟨d.line,d.data⟩]).length _∧_)
       rw[hml];exact hbus x hx
      ·show EOk (overM c.mem [⟨d.line,d.data⟩]).length e
       rw[hml];exact h.rob e he
      ·show okAt ((overM c.mem [⟨d.line,d.data⟩]).length:Nat) p.addr p.data.length=true
       rw[hml];exact h.sto p hp
     ·rename_i hk
      exact base hk
end Go.Proofs.YtdmhfogegfmnfaaGreatDoor
