/- Contracts: whether bytes lap. Conditions: sizes are below a million. -/
import Derived.Test.YtdmhfogegfmnfaaGreatDoorB03
import Derived.Test.YtdmhfogegfmnfaaGreatDoorB19
set_option maxRecDepth 100000
set_option maxHeartbeats 2000000
set_option linter.unusedVariables false
set_option linter.unusedSimpArgs false
namespace Go.Proofs.YtdmhfogegfmnfaaGreatDoor
open Go.RowKit
theorem laps_any(a:U)(n:Int)(b:U)(m:Int)(h1:n≤1000000)(h2:m≤1000000)(w:World):Calls Tryz.prog 134 #[.int .u32 a.v,.int .i64 n,.int .u32 b.v,.int .i64 m] w fun e w'=>e= .returned (.bool (lapsB a n b m))∧w=w':=by
 have x0:=a.lo
 have x1:=a.hi
 have y0:=b.lo
 have y1:=b.hi
 have EE:=Lib.hid (show lapsB a n b m=decide (0<n∧0<m∧a.v<b.v+m∧b.v<a.v+n)from rfl)
 by_cases c1:n≤0
 ·have ER:=Lib.hid (show lapsB a n b m=false by rw[EE.out];exact decide_eq_false (by omega))
  go_enter Tryz.func134,Tryz.ntmps134
  go_wp2
  go_ret
  exact⟨ret_b ER.out.symm,rfl⟩
 ·by_cases c2:m≤0
  ·have ER:=Lib.hid (show lapsB a n b m=false by rw[EE.out];exact decide_eq_false (by omega))
   go_enter Tryz.func134,Tryz.ntmps134
   go_wp2
   go_ret
   exact⟨ret_b ER.out.symm,rfl⟩
  ·have e1:(if n<0 then 0 else n)=n:=if_neg (by omega)
   have e2:(if m<0 then 0 else m)=m:=if_neg (by omega)
   have E1:=end_any a n h1
   have E2:=end_any b m h2
   rw[e1]at E1
   rw[e2]at E2
   have E1:=Lib.hid E1
   have E2:=Lib.hid E2
   by_cases c3:a.v<b.v+m
   ·have ER:=Lib.hid (show lapsB a n b m=decide (b.v<a.v+n) by rw[EE.out,decide_eq_decide];omega)
    go_enter Tryz.func134,Tryz.ntmps134
    go_wp2_with ((go_at_call 149;first|(refine(E2.out _).mono ?_;rintro r w1 ⟨rfl,rfl⟩)|(refine(E1.out _).mono ?_;rintro r w1 ⟨rfl,rfl⟩)))
    all_goals
     go_ret
     exact⟨ret_b ER.out.symm,rfl⟩
   ·have ER:=Lib.hid (show lapsB a n b m=false by rw[EE.out];exact decide_eq_false (by omega))
    go_enter Tryz.func134,Tryz.ntmps134
    go_wp2_with ((go_at_call 149;(refine(E2.out _).mono ?_;rintro r w1 ⟨rfl,rfl⟩)))
    all_goals
     go_ret
     exact⟨ret_b ER.out.symm,rfl⟩
theorem holds_any(a:U)(n:Int)(b:U)(m:Int)(h1:n≤1000000)(h2:m≤1000000)(w:World):Calls Tryz.prog 135 #[.int .u32 a.v,.int .i64 n,.int .u32 b.v,.int .i64 m] w fun e w'=>e= .returned (.bool (holdsB a n b m))∧w=w':=by
 have x0:=a.lo
 have x1:=a.hi
 have y0:=b.lo
 have y1:=b.hi
 have EE:=Lib.hid (show holdsB a n b m=decide (0<m∧a.v≤b.v∧b.v+m≤a.v+(if n<0 then 0 else n))from rfl)
 by_cases c1:0<m
 ·by_cases c2:a.v≤b.v
  ·obtain⟨n',hn'⟩:∃ n',(if n<0 then 0 else n)=n':=⟨_,rfl⟩
   have e2:(if m<0 then 0 else m)=m:=if_neg (by omega)
   have E1:=end_any a n h1
   have E2:=end_any b m h2
   rw[hn']at E1 EE
   rw[e2]at E2
   have E1:=Lib.hid E1
   have E2:=Lib.hid E2
   have ER:=Lib.hid (show holdsB a n b m=decide (b.v+m≤a.v+n') by rw[EE.out,decide_eq_decide];omega)
   clear hn'
   go_enter Tryz.func135,Tryz.ntmps135
   go_wp2_with ((go_at_call 149;first|(refine(E2.out _).mono ?_;rintro r w1 ⟨rfl,rfl⟩)|(refine(E1.out _).mono ?_;rintro r w1 ⟨rfl,rfl⟩)))
   all_goals
    go_ret
    exact⟨ret_b ER.out.symm,rfl⟩
  ·have ER:=Lib.hid (show holdsB a n b m=false by rw[EE.out];exact decide_eq_false (by omega))
   go_enter Tryz.func135,Tryz.ntmps135
   go_wp2
   go_ret
   exact⟨ret_b ER.out.symm,rfl⟩
 ·have ER:=Lib.hid (show holdsB a n b m=false by rw[EE.out];exact decide_eq_false (by omega))
  go_enter Tryz.func135,Tryz.ntmps135
  go_wp2
  go_ret
  exact⟨ret_b ER.out.symm,rfl⟩
end Go.Proofs.YtdmhfogegfmnfaaGreatDoor
