/- Contracts: what alu.Do, alu.Mul, alu.Taken, alu.Next answer. Condition: the numbers are words. DERIVED: THE SHELF's CONTRACTS AT THIS DUMP, IN PLAIN WORDS (tools/lay-plain.mjs out of 'TryzShelf.lean', which tools/lay-shelf.mjs wrote): THE SAME DECLARATIONS UNDER THE SAME NAMES: 'import', 'namespace', 'open', 'def', 'theorem' AND NOTHING ELSE: no command of the shelf's: FOR .. -/
import Derived.Test.YtdmhfogegfmnfaaGreatDoorProg
import Derived.Test.YtdmhfogegfmnfaaGreatDoorB01
import Derived.Test.YtdmhfogegfmnfaaGreatDoorB04
import Derived.Test.YtdmhfogegfmnfaaGreatDoorB09
import Derived.Test.YtdmhfogegfmnfaaGreatDoorB10
import Derived.Test.YtdmhfogegfmnfaaGreatDoorB13
import Derived.Test.YtdmhfogegfmnfaaGreatDoorB17
import Derived.Test.YtdmhfogegfmnfaaGreatDoorB18
import Derived.Test.YtdmhfogegfmnfaaGreatDoorB20
import Derived.ProofKit
import Derived.OpenShut
import Derived.Handy
import Derived.Shelf.Small.Bits
import Derived.Ground.SlgnProg
import Derived.Shelf.SlicesE.Clone
set_option maxRecDepth 100000
set_option maxHeartbeats 4000000
set_option linter.unusedVariables false
set_option linter.unusedSimpArgs false
namespace Go.Proofs.YtdmhfogegfmnfaaGreatDoor
open Go.RowKit
section
open Go.ChangeShapes Go.WideShapes Go.ChangeAt Go.RowKit
theorem ret_u32{a b:Int}(h:a=b):Ending.returned (.int .u32 a)= .returned (.int .u32 b):=by rw[h]
theorem do_1(x y:Int)(w:World)(h0:0≤x)(h1:x≤4294967295)(g0:0≤y)(g1:y≤4294967295):
 Calls Tryz.prog 139 #[.int .i64 1,.int .u32 x,.int .u32 y] w fun e w'=>e= .returned (.int .u32 (ad 1 x y))∧w=w':=by
 have e31:=and31 y g0 g1
 go_enter Tryz.func139,Tryz.ntmps139
 go_wp2
 go_ret
 exact⟨ret_u32 (ad1 x y).symm,rfl⟩
theorem do_19(x y:Int)(w:World)(h0:0≤x)(h1:x≤4294967295)(g0:0≤y)(g1:y≤4294967295):
 Calls Tryz.prog 139 #[.int .i64 19,.int .u32 x,.int .u32 y] w fun e w'=>e= .returned (.int .u32 (ad 19 x y))∧w=w':=by
 have e31:=and31 y g0 g1
 go_enter Tryz.func139,Tryz.ntmps139
 go_wp2
 go_ret
 exact⟨ret_u32 (ad19 x y).symm,rfl⟩
theorem do_20(x y:Int)(w:World)(h0:0≤x)(h1:x≤4294967295)(g0:0≤y)(g1:y≤4294967295):
 Calls Tryz.prog 139 #[.int .i64 20,.int .u32 x,.int .u32 y] w fun e w'=>e= .returned (.int .u32 (ad 20 x y))∧w=w':=by
 have e31:=and31 y g0 g1
 rcases Int.lt_or_le (wrap32 x) (wrap32 y)with c|c
 ·go_enter Tryz.func139,Tryz.ntmps139
  go_wp2
  go_ret
  exact⟨ret_u32 (by rw[ad20,if_pos c]),rfl⟩
 ·go_enter Tryz.func139,Tryz.ntmps139
  go_wp2
  go_ret
  exact⟨ret_u32 (by rw[ad20,if_neg (by omega)]),rfl⟩
theorem do_21(x y:Int)(w:World)(h0:0≤x)(h1:x≤4294967295)(g0:0≤y)(g1:y≤4294967295):
 Calls Tryz.prog 139 #[.int .i64 21,.int .u32 x,.int .u32 y] w fun e w'=>e= .returned (.int .u32 (ad 21 x y))∧w=w':=by
 have e31:=and31 y g0 g1
 rcases Int.lt_or_le x y with c|c
 ·go_enter Tryz.func139,Tryz.ntmps139
  go_wp2
  go_ret
  exact⟨ret_u32 (by rw[ad21,if_pos c]),rfl⟩
 ·go_enter Tryz.func139,Tryz.ntmps139
  go_wp2
  go_ret
  exact⟨ret_u32 (by rw[ad21,if_neg (by omega)]),rfl⟩
theorem do_22(x y:Int)(w:World)(h0:0≤x)(h1:x≤4294967295)(g0:0≤y)(g1:y≤4294967295):
 Calls Tryz.prog 139 #[.int .i64 22,.int .u32 x,.int .u32 y] w fun e w'=>e= .returned (.int .u32 (ad 22 x y))∧w=w':=by
 have e31:=and31 y g0 g1
 go_enter Tryz.func139,Tryz.ntmps139
 go_wp2
 go_ret
 exact⟨ret_u32 (ad22 x y).symm,rfl⟩
theorem do_23(x y:Int)(w:World)(h0:0≤x)(h1:x≤4294967295)(g0:0≤y)(g1:y≤4294967295):
 Calls Tryz.prog 139 #[.int .i64 23,.int .u32 x,.int .u32 y] w fun e w'=>e= .returned (.int .u32 (ad 23 x y))∧w=w':=by
 have e31:=and31 y g0 g1
 go_enter Tryz.func139,Tryz.ntmps139
 go_wp2
 go_ret
 exact⟨ret_u32 (ad23 x y).symm,rfl⟩
theorem do_24(x y:Int)(w:World)(h0:0≤x)(h1:x≤4294967295)(g0:0≤y)(g1:y≤4294967295):
 Calls Tryz.prog 139 #[.int .i64 24,.int .u32 x,.int .u32 y] w fun e w'=>e= .returned (.int .u32 (ad 24 x y))∧w=w':=by
 have e31:=and31 y g0 g1
 go_enter Tryz.func139,Tryz.ntmps139
 go_wp2
 go_ret
 exact⟨ret_u32 (ad24 x y).symm,rfl⟩
theorem do_25(x y:Int)(w:World)(h0:0≤x)(h1:x≤4294967295)(g0:0≤y)(g1:y≤4294967295):
 Calls Tryz.prog 139 #[.int .i64 25,.int .u32 x,.int .u32 y] w fun e w'=>e= .returned (.int .u32 (ad 25 x y))∧w=w':=by
 have e31:=and31 y g0 g1
 go_enter Tryz.func139,Tryz.ntmps139
 go_wp2
 go_ret
 exact⟨ret_u32 (ad25 x y).symm,rfl⟩
theorem do_26(x y:Int)(w:World)(h0:0≤x)(h1:x≤4294967295)(g0:0≤y)(g1:y≤4294967295):
 Calls Tryz.prog 139 #[.int .i64 26,.int .u32 x,.int .u32 y] w fun e w'=>e= .returned (.int .u32 (ad 26 x y))∧w=w':=by
 have e31:=and31 y g0 g1
 go_enter Tryz.func139,Tryz.ntmps139
 go_wp2
 go_ret
 exact⟨ret_u32 (ad26 x y).symm,rfl⟩
theorem do_27(x y:Int)(w:World)(h0:0≤x)(h1:x≤4294967295)(g0:0≤y)(g1:y≤4294967295):
 Calls Tryz.prog 139 #[.int .i64 27,.int .u32 x,.int .u32 y] w fun e w'=>e= .returned (.int .u32 (ad 27 x y))∧w=w':=by
 have e31:=and31 y g0 g1
 go_enter Tryz.func139,Tryz.ntmps139
 go_wp2
 go_ret
 exact⟨ret_u32 (ad27 x y).symm,rfl⟩
theorem do_28(x y:Int)(w:World)(h0:0≤x)(h1:x≤4294967295)(g0:0≤y)(g1:y≤4294967295):
 Calls Tryz.prog 139 #[.int .i64 28,.int .u32 x,.int .u32 y] w fun e w'=>e= .returned (.int .u32 (ad 28 x y))∧w=w':=by
 have e31:=and31 y g0 g1
 go_enter Tryz.func139,Tryz.ntmps139
 go_wp2
 go_ret
 exact⟨ret_u32 (ad28 x y).symm,rfl⟩
theorem do_29(x y:Int)(w:World)(h0:0≤x)(h1:x≤4294967295)(g0:0≤y)(g1:y≤4294967295):
 Calls Tryz.prog 139 #[.int .i64 29,.int .u32 x,.int .u32 y] w fun e w'=>e= .returned (.int .u32 (ad 29 x y))∧w=w':=by
 have e31:=and31 y g0 g1
 go_enter Tryz.func139,Tryz.ntmps139
 go_wp2
 go_ret
 exact⟨ret_u32 (ad29 x y).symm,rfl⟩
theorem do_30(x y:Int)(w:World)(h0:0≤x)(h1:x≤4294967295)(g0:0≤y)(g1:y≤4294967295):
 Calls Tryz.prog 139 #[.int .i64 30,.int .u32 x,.int .u32 y] w fun e w'=>e= .returned (.int .u32 (ad 30 x y))∧w=w':=by
 have e31:=and31 y g0 g1
 go_enter Tryz.func139,Tryz.ntmps139
 go_wp2
 go_ret
 exact⟨ret_u32 (ad30 x y).symm,rfl⟩
theorem do_31(x y:Int)(w:World)(h0:0≤x)(h1:x≤4294967295)(g0:0≤y)(g1:y≤4294967295):
 Calls Tryz.prog 139 #[.int .i64 31,.int .u32 x,.int .u32 y] w fun e w'=>e= .returned (.int .u32 (ad 31 x y))∧w=w':=by
 have e31:=and31 y g0 g1
 rcases Int.lt_or_le (wrap32 x) (wrap32 y)with c|c
 ·go_enter Tryz.func139,Tryz.ntmps139
  go_wp2
  go_ret
  exact⟨ret_u32 (by rw[ad31,if_pos c]),rfl⟩
 ·go_enter Tryz.func139,Tryz.ntmps139
  go_wp2
  go_ret
  exact⟨ret_u32 (by rw[ad31,if_neg (by omega)]),rfl⟩
theorem do_32(x y:Int)(w:World)(h0:0≤x)(h1:x≤4294967295)(g0:0≤y)(g1:y≤4294967295):
 Calls Tryz.prog 139 #[.int .i64 32,.int .u32 x,.int .u32 y] w fun e w'=>e= .returned (.int .u32 (ad 32 x y))∧w=w':=by
 have e31:=and31 y g0 g1
 rcases Int.lt_or_le x y with c|c
 ·go_enter Tryz.func139,Tryz.ntmps139
  go_wp2
  go_ret
  exact⟨ret_u32 (by rw[ad32,if_pos c]),rfl⟩
 ·go_enter Tryz.func139,Tryz.ntmps139
  go_wp2
  go_ret
  exact⟨ret_u32 (by rw[ad32,if_neg (by omega)]),rfl⟩
theorem do_33(x y:Int)(w:World)(h0:0≤x)(h1:x≤4294967295)(g0:0≤y)(g1:y≤4294967295):
 Calls Tryz.prog 139 #[.int .i64 33,.int .u32 x,.int .u32 y] w fun e w'=>e= .returned (.int .u32 (ad 33 x y))∧w=w':=by
 have e31:=and31 y g0 g1
 go_enter Tryz.func139,Tryz.ntmps139
 go_wp2
 go_ret
 exact⟨ret_u32 (ad33 x y).symm,rfl⟩
theorem do_34(x y:Int)(w:World)(h0:0≤x)(h1:x≤4294967295)(g0:0≤y)(g1:y≤4294967295):
 Calls Tryz.prog 139 #[.int .i64 34,.int .u32 x,.int .u32 y] w fun e w'=>e= .returned (.int .u32 (ad 34 x y))∧w=w':=by
 have e31:=and31 y g0 g1
 go_enter Tryz.func139,Tryz.ntmps139
 go_wp2
 go_ret
 exact⟨ret_u32 (ad34 x y).symm,rfl⟩
theorem do_35(x y:Int)(w:World)(h0:0≤x)(h1:x≤4294967295)(g0:0≤y)(g1:y≤4294967295):
 Calls Tryz.prog 139 #[.int .i64 35,.int .u32 x,.int .u32 y] w fun e w'=>e= .returned (.int .u32 (ad 35 x y))∧w=w':=by
 have e31:=and31 y g0 g1
 go_enter Tryz.func139,Tryz.ntmps139
 go_wp2
 go_ret
 exact⟨ret_u32 (ad35 x y).symm,rfl⟩
theorem do_36(x y:Int)(w:World)(h0:0≤x)(h1:x≤4294967295)(g0:0≤y)(g1:y≤4294967295):
 Calls Tryz.prog 139 #[.int .i64 36,.int .u32 x,.int .u32 y] w fun e w'=>e= .returned (.int .u32 (ad 36 x y))∧w=w':=by
 have e31:=and31 y g0 g1
 go_enter Tryz.func139,Tryz.ntmps139
 go_wp2
 go_ret
 exact⟨ret_u32 (ad36 x y).symm,rfl⟩
theorem do_37(x y:Int)(w:World)(h0:0≤x)(h1:x≤4294967295)(g0:0≤y)(g1:y≤4294967295):
 Calls Tryz.prog 139 #[.int .i64 37,.int .u32 x,.int .u32 y] w fun e w'=>e= .returned (.int .u32 (ad 37 x y))∧w=w':=by
 have e31:=and31 y g0 g1
 go_enter Tryz.func139,Tryz.ntmps139
 go_wp2
 go_ret
 exact⟨ret_u32 (ad37 x y).symm,rfl⟩
theorem do_else(op x y:Int)(w:World)(g0:0≤y)(g1:y≤4294967295)(h:op≠1∧op≠19∧op≠20∧op≠21∧op≠22∧op≠23∧op≠24∧op≠25∧op≠26∧op≠27∧op≠28∧op≠29∧op≠30∧op≠31∧op≠32∧op≠33∧op≠34∧op≠35∧op≠36∧op≠37):
 Calls Tryz.prog 139 #[.int .i64 op,.int .u32 x,.int .u32 y] w fun e w'=>e= .returned (.int .u32 (ad op x y))∧w=w':=by
 have e31:=and31 y g0 g1
 have hd:=Lib.hid (ad_else op x y h)
 have e1:(op== 1)=false:=by rw[beq_eq_false_iff_ne];omega
 have e19:(op== 19)=false:=by rw[beq_eq_false_iff_ne];omega
 have e20:(op== 20)=false:=by rw[beq_eq_false_iff_ne];omega
 have e21:(op== 21)=false:=by rw[beq_eq_false_iff_ne];omega
 have e22:(op== 22)=false:=by rw[beq_eq_false_iff_ne];omega
 have e23:(op== 23)=false:=by rw[beq_eq_false_iff_ne];omega
 have e24:(op== 24)=false:=by rw[beq_eq_false_iff_ne];omega
 have e25:(op== 25)=false:=by rw[beq_eq_false_iff_ne];omega
 have e26:(op== 26)=false:=by rw[beq_eq_false_iff_ne];omega
 have e27:(op== 27)=false:=by rw[beq_eq_false_iff_ne];omega
 have e28:(op== 28)=false:=by rw[beq_eq_false_iff_ne];omega
 have e29:(op== 29)=false:=by rw[beq_eq_false_iff_ne];omega
 have e30:(op== 30)=false:=by rw[beq_eq_false_iff_ne];omega
 have e31:(op== 31)=false:=by rw[beq_eq_false_iff_ne];omega
 have e32:(op== 32)=false:=by rw[beq_eq_false_iff_ne];omega
 have e33:(op== 33)=false:=by rw[beq_eq_false_iff_ne];omega
 have e34:(op== 34)=false:=by rw[beq_eq_false_iff_ne];omega
 have e35:(op== 35)=false:=by rw[beq_eq_false_iff_ne];omega
 have e36:(op== 36)=false:=by rw[beq_eq_false_iff_ne];omega
 have e37:(op== 37)=false:=by rw[beq_eq_false_iff_ne];omega
 clear h
 go_enter Tryz.func139,Tryz.ntmps139
 go_wp2
 go_ret
 exact⟨ret_u32 hd.out.symm,rfl⟩
theorem do_all(op:Int)(x y:Int)(w:World)(h0:0≤x)(h1:x≤4294967295)(g0:0≤y)(g1:y≤4294967295):
 Calls Tryz.prog 139 #[.int .i64 op,.int .u32 x,.int .u32 y] w fun e w'=>e= .returned (.int .u32 (ad op x y))∧w=w':=by
 by_cases e1:op=1
 ·subst e1;exact do_1 x y w h0 h1 g0 g1
 by_cases e19:op=19
 ·subst e19;exact do_19 x y w h0 h1 g0 g1
 by_cases e20:op=20
 ·subst e20;exact do_20 x y w h0 h1 g0 g1
 by_cases e21:op=21
 ·subst e21;exact do_21 x y w h0 h1 g0 g1
 by_cases e22:op=22
 ·subst e22;exact do_22 x y w h0 h1 g0 g1
 by_cases e23:op=23
 ·subst e23;exact do_23 x y w h0 h1 g0 g1
 by_cases e24:op=24
 ·subst e24;exact do_24 x y w h0 h1 g0 g1
 by_cases e25:op=25
 ·subst e25;exact do_25 x y w h0 h1 g0 g1
 by_cases e26:op=26
 ·subst e26;exact do_26 x y w h0 h1 g0 g1
 by_cases e27:op=27
 ·subst e27;exact do_27 x y w h0 h1 g0 g1
 by_cases e28:op=28
 ·subst e28;exact do_28 x y w h0 h1 g0 g1
 by_cases e29:op=29
 ·subst e29;exact do_29 x y w h0 h1 g0 g1
 by_cases e30:op=30
 ·subst e30;exact do_30 x y w h0 h1 g0 g1
 by_cases e31:op=31
 ·subst e31;exact do_31 x y w h0 h1 g0 g1
 by_cases e32:op=32
 ·subst e32;exact do_32 x y w h0 h1 g0 g1
 by_cases e33:op=33
 ·subst e33;exact do_33 x y w h0 h1 g0 g1
 by_cases e34:op=34
 ·subst e34;exact do_34 x y w h0 h1 g0 g1
 by_cases e35:op=35
 ·subst e35;exact do_35 x y w h0 h1 g0 g1
 by_cases e36:op=36
 ·subst e36;exact do_36 x y w h0 h1 g0 g1
 by_cases e37:op=37
 ·subst e37;exact do_37 x y w h0 h1 g0 g1
 exact do_else op x y w g0 g1 ⟨e1,e19,e20,e21,e22,e23,e24,e25,e26,e27,e28,e29,e30,e31,e32,e33,e34,e35,e36,e37⟩
theorem ret_bl{a b:Bool}(h:a=b):Ending.returned (.bool a)= .returned (.bool b):=by rw[h]
theorem half64(p:Int)(h0:-9223372036854775808≤p)(h1:p≤9223372036854775807):IntKind.u64.wrap (wrap64 p) / 4294967296 % 4294967296=p / 4294967296 % 4294967296:=by
 rw[IntKind.wrap_u64];unfold wrap64;omega
theorem mul_bd(p q a b:Int)(h0:-a≤p)(h1:p≤a)(g0:-b≤q)(g1:q≤b)(ha:0≤a)(hb:0≤b):-(a*b)≤p*q∧p*q≤a*b:=by
 have:(p*q).natAbs≤(a*b).natAbs:=by
  rw[Int.natAbs_mul,Int.natAbs_mul]
  exact Nat.mul_le_mul (by omega) (by omega)
 have:=Int.mul_nonneg ha hb
 omega
theorem w32_64(x:Int):wrap64 (wrap32 x)=wrap32 x:=by
 have:=wrap32_bd x;unfold wrap64;omega
theorem h39(x y:Int):IntKind.u64.wrap (wrap64 (wrap64 (wrap32 x)*wrap64 (wrap32 y))) / 4294967296 % 4294967296=mu 39 x y:=by
 have a:=wrap32_bd x
 have b:=wrap32_bd y
 have m:=mul_bd (wrap32 x) (wrap32 y) 2147483648 2147483648 (by omega) (by omega) (by omega) (by omega) (by decide) (by decide)
 rw[w32_64,w32_64,mu39]
 exact half64 _ (by omega) (by omega)
theorem h40(x y:Int)(g0:0≤y)(g1:y≤4294967295):IntKind.u64.wrap (wrap64 (wrap64 (wrap32 x)*y)) / 4294967296 % 4294967296=mu 40 x y:=by
 have a:=wrap32_bd x
 have m:=mul_bd (wrap32 x) y 2147483648 4294967295 (by omega) (by omega) (by omega) (by omega) (by decide) (by decide)
 rw[w32_64,mu40]
 exact half64 _ (by omega) (by omega)
theorem prod_bd(x y:Int)(h0:0≤x)(h1:x≤4294967295)(g0:0≤y)(g1:y≤4294967295):0≤x*y∧x*y≤18446744065119617025:=by
 have m:=mul_bd x y 4294967295 4294967295 (by omega) (by omega) (by omega) (by omega) (by decide) (by decide)
 have:=Int.mul_nonneg h0 g0
 omega
theorem h41(x y:Int)(h0:0≤x)(h1:x≤4294967295)(g0:0≤y)(g1:y≤4294967295):IntKind.u64.wrap (x*y) / 4294967296 % 4294967296=mu 41 x y:=by
 have m:=prod_bd x y h0 h1 g0 g1
 rw[IntKind.wrap_u64,mu41];omega
theorem mul_38(x y:Int)(w:World)(h0:0≤x)(h1:x≤4294967295)(g0:0≤y)(g1:y≤4294967295):
 Calls Tryz.prog 136 #[.int .i64 38,.int .u32 x,.int .u32 y] w fun e w'=>e= .returned (.int .u32 (mu 38 x y))∧w=w':=by
 go_enter Tryz.func136,Tryz.ntmps136
 go_wp2
 go_ret
 exact⟨ret_u32 (rfl),rfl⟩
theorem mul_39(x y:Int)(w:World)(h0:0≤x)(h1:x≤4294967295)(g0:0≤y)(g1:y≤4294967295):
 Calls Tryz.prog 136 #[.int .i64 39,.int .u32 x,.int .u32 y] w fun e w'=>e= .returned (.int .u32 (mu 39 x y))∧w=w':=by
 go_enter Tryz.func136,Tryz.ntmps136
 go_wp2
 go_ret
 exact⟨ret_u32 (h39 x y),rfl⟩
theorem mul_40(x y:Int)(w:World)(h0:0≤x)(h1:x≤4294967295)(g0:0≤y)(g1:y≤4294967295):
 Calls Tryz.prog 136 #[.int .i64 40,.int .u32 x,.int .u32 y] w fun e w'=>e= .returned (.int .u32 (mu 40 x y))∧w=w':=by
 go_enter Tryz.func136,Tryz.ntmps136
 go_wp2
 go_ret
 exact⟨ret_u32 (h40 x y g0 g1),rfl⟩
theorem mul_41(x y:Int)(w:World)(h0:0≤x)(h1:x≤4294967295)(g0:0≤y)(g1:y≤4294967295):
 Calls Tryz.prog 136 #[.int .i64 41,.int .u32 x,.int .u32 y] w fun e w'=>e= .returned (.int .u32 (mu 41 x y))∧w=w':=by
 go_enter Tryz.func136,Tryz.ntmps136
 go_wp2
 go_ret
 exact⟨ret_u32 (h41 x y h0 h1 g0 g1),rfl⟩
theorem mul_all(op:Int)(x y:Int)(w:World)(h0:0≤x)(h1:x≤4294967295)(g0:0≤y)(g1:y≤4294967295):
 Calls Tryz.prog 136 #[.int .i64 op,.int .u32 x,.int .u32 y] w fun e w'=>e= .returned (.int .u32 (mu op x y))∧w=w':=by
 by_cases h:op<38∨41<op
 ·have hd:=Lib.hid (mu_else op x y h)
  have e38:(op== 38)=false:=by rw[beq_eq_false_iff_ne];omega
  have e39:(op== 39)=false:=by rw[beq_eq_false_iff_ne];omega
  have e40:(op== 40)=false:=by rw[beq_eq_false_iff_ne];omega
  have e41:(op== 41)=false:=by rw[beq_eq_false_iff_ne];omega
  clear h
  go_enter Tryz.func136,Tryz.ntmps136
  go_wp2
  go_ret
  exact⟨ret_u32 hd.out.symm,rfl⟩
 ·have h:op=38∨op=39∨op=40∨op=41:=by omega
  rcases h with rfl|rfl|rfl|rfl
  ·exact mul_38 x y w h0 h1 g0 g1
  ·exact mul_39 x y w h0 h1 g0 g1
  ·exact mul_40 x y w h0 h1 g0 g1
  ·exact mul_41 x y w h0 h1 g0 g1
theorem taken_5(x y:Int)(w:World)(h0:0≤x)(h1:x≤4294967295)(g0:0≤y)(g1:y≤4294967295):
 Calls Tryz.prog 153 #[.int .i64 5,.int .u32 x,.int .u32 y] w fun e w'=>e= .returned (.bool (br 5 x y))∧w=w':=by
 go_enter Tryz.func153,Tryz.ntmps153
 go_wp2
 go_ret
 exact⟨ret_bl rfl,rfl⟩
theorem taken_6(x y:Int)(w:World)(h0:0≤x)(h1:x≤4294967295)(g0:0≤y)(g1:y≤4294967295):
 Calls Tryz.prog 153 #[.int .i64 6,.int .u32 x,.int .u32 y] w fun e w'=>e= .returned (.bool (br 6 x y))∧w=w':=by
 go_enter Tryz.func153,Tryz.ntmps153
 go_wp2
 go_ret
 exact⟨ret_bl rfl,rfl⟩
theorem taken_7(x y:Int)(w:World)(h0:0≤x)(h1:x≤4294967295)(g0:0≤y)(g1:y≤4294967295):
 Calls Tryz.prog 153 #[.int .i64 7,.int .u32 x,.int .u32 y] w fun e w'=>e= .returned (.bool (br 7 x y))∧w=w':=by
 go_enter Tryz.func153,Tryz.ntmps153
 go_wp2
 go_ret
 exact⟨ret_bl rfl,rfl⟩
theorem taken_8(x y:Int)(w:World)(h0:0≤x)(h1:x≤4294967295)(g0:0≤y)(g1:y≤4294967295):
 Calls Tryz.prog 153 #[.int .i64 8,.int .u32 x,.int .u32 y] w fun e w'=>e= .returned (.bool (br 8 x y))∧w=w':=by
 go_enter Tryz.func153,Tryz.ntmps153
 go_wp2
 go_ret
 exact⟨ret_bl rfl,rfl⟩
theorem taken_9(x y:Int)(w:World)(h0:0≤x)(h1:x≤4294967295)(g0:0≤y)(g1:y≤4294967295):
 Calls Tryz.prog 153 #[.int .i64 9,.int .u32 x,.int .u32 y] w fun e w'=>e= .returned (.bool (br 9 x y))∧w=w':=by
 go_enter Tryz.func153,Tryz.ntmps153
 go_wp2
 go_ret
 exact⟨ret_bl rfl,rfl⟩
theorem taken_10(x y:Int)(w:World)(h0:0≤x)(h1:x≤4294967295)(g0:0≤y)(g1:y≤4294967295):
 Calls Tryz.prog 153 #[.int .i64 10,.int .u32 x,.int .u32 y] w fun e w'=>e= .returned (.bool (br 10 x y))∧w=w':=by
 go_enter Tryz.func153,Tryz.ntmps153
 go_wp2
 go_ret
 exact⟨ret_bl rfl,rfl⟩
theorem taken_all(op:Int)(x y:Int)(w:World)(h0:0≤x)(h1:x≤4294967295)(g0:0≤y)(g1:y≤4294967295):
 Calls Tryz.prog 153 #[.int .i64 op,.int .u32 x,.int .u32 y] w fun e w'=>e= .returned (.bool (br op x y))∧w=w':=by
 by_cases h:op<5∨10<op
 ·have hd:=Lib.hid (br_else op x y h)
  have e5:(op== 5)=false:=by rw[beq_eq_false_iff_ne];omega
  have e6:(op== 6)=false:=by rw[beq_eq_false_iff_ne];omega
  have e7:(op== 7)=false:=by rw[beq_eq_false_iff_ne];omega
  have e8:(op== 8)=false:=by rw[beq_eq_false_iff_ne];omega
  have e9:(op== 9)=false:=by rw[beq_eq_false_iff_ne];omega
  have e10:(op== 10)=false:=by rw[beq_eq_false_iff_ne];omega
  clear h
  go_enter Tryz.func153,Tryz.ntmps153
  go_wp2
  go_ret
  exact⟨ret_bl hd.out.symm,rfl⟩
 ·have h:op=5∨op=6∨op=7∨op=8∨op=9∨op=10:=by omega
  rcases h with rfl|rfl|rfl|rfl|rfl|rfl
  ·exact taken_5 x y w h0 h1 g0 g1
  ·exact taken_6 x y w h0 h1 g0 g1
  ·exact taken_7 x y w h0 h1 g0 g1
  ·exact taken_8 x y w h0 h1 g0 g1
  ·exact taken_9 x y w h0 h1 g0 g1
  ·exact taken_10 x y w h0 h1 g0 g1
theorem nx_3{op:Int}(im pc x y:Int)(h:op=3∨br op x y=true):nx op im pc x y=(pc+im) % 4294967296:=by unfold nx;rw[if_pos h]
theorem nx_4(im pc x y:Int):nx 4 im pc x y=(x+im) % 4294967296 / 2*2:=by
 have h:br 4 x y=false:=br_else 4 x y (by decide)
 unfold nx;rw[if_neg (by rw[h];decide),if_pos rfl]
theorem nx_e{op:Int}(im pc x y:Int)(h3:op≠3)(h:br op x y=false)(h4:op≠4):nx op im pc x y=(pc+4) % 4294967296:=by
 unfold nx;rw[if_neg (by rw[h];simp[h3]),if_neg h4]
theorem next_any(op rd r1 r2 im pc x y:Int)(w:World)(m0:0≤im)(m1:im≤4294967295)(p0:0≤pc)(p1:pc≤4294967295)(h0:0≤x)(h1:x≤4294967295)(g0:0≤y)(g1:y≤4294967295):
 Calls Tryz.prog 142 #[.agg #[.int .i64 op,.int .i64 rd,.int .i64 r1,.int .i64 r2,.int .u32 im],.int .u32 pc,.int .u32 x,.int .u32 y] w fun e w'=>e= .returned (.int .u32 (nx op im pc x y))∧Below w.heap.size w w':=by
 have b1:=(Below.refl w.heap.size w).alloc (Nat.le_refl _) (.cells #[.int .i64 op,.int .i64 rd,.int .i64 r1,.int .i64 r2,.int .u32 im] 83)
 by_cases h3:op=3
 ·subst h3
  have hn:=Lib.hid (nx_3 (op:=3) im pc x y (Or.inl rfl))
  go_enter Tryz.func142,Tryz.ntmps142
  go_wp2_with (go_at_call 153;refine(taken_all _ _ _ _ (by omega) (by omega) (by omega) (by omega)).mono ?_;rintro e w' ⟨rfl,rfl⟩)
  go_ret
  exact⟨ret_u32 hn.out.symm,b1⟩
 ·have h3':(op== 3)=false:=by rw[beq_eq_false_iff_ne];exact h3
  by_cases h4:op=4
  ·subst h4
   have hn:=Lib.hid (nx_4 im pc x y)
   have hb:br 4 x y=false:=br_else 4 x y (by decide)
   have ha:=even_of ((x+im) % 4294967296) (by omega) (by omega)
   go_enter Tryz.func142,Tryz.ntmps142
   go_wp2_with (go_at_call 153;refine(taken_all _ _ _ _ (by omega) (by omega) (by omega) (by omega)).mono ?_;rintro e w' ⟨rfl,rfl⟩)
   go_ret
   exact⟨ret_u32 hn.out.symm,b1⟩
  ·have h4':(op== 4)=false:=by rw[beq_eq_false_iff_ne];exact h4
   cases hb:br op x y with
   | true=>
    have hn:=Lib.hid (nx_3 im pc x y (Or.inr hb))
    clear h3 h4
    go_enter Tryz.func142,Tryz.ntmps142
    go_wp2_with (go_at_call 153;refine(taken_all _ _ _ _ (by omega) (by omega) (by omega) (by omega)).mono ?_;rintro e w' ⟨rfl,rfl⟩)
    go_ret
    exact⟨ret_u32 hn.out.symm,b1⟩
   | false=>
    have hn:=Lib.hid (nx_e im pc x y h3 hb h4)
    clear h3 h4
    go_enter Tryz.func142,Tryz.ntmps142
    go_wp2_with (go_at_call 153;refine(taken_all _ _ _ _ (by omega) (by omega) (by omega) (by omega)).mono ?_;rintro e w' ⟨rfl,rfl⟩)
    go_ret
    exact⟨ret_u32 hn.out.symm,b1⟩
end
end Go.Proofs.YtdmhfogegfmnfaaGreatDoor
namespace Go.Proofs
open Go.Shelf
def Tryz.lays128_ren:Go.Shelf.Ren:=⟨fun|128=>152|n=>n,fun|51=>28|3=>3|4=>4|46=>219|5=>5|9=>9|n=>n,fun|n=>n⟩
theorem Tryz.lays128:Go.Proofs.Lays.n128 Tryz.prog Tryz.lays128_ren:={
 mixed:=by kernel_rfl
 f128:=Tryz.func152.trans (congrArg some (by kernel_rfl))
 t3:=Tryz.underlying3
 a3:=Tryz.isAgg3
 z3:=Tryz.sizeOf3
 v3:=Tryz.zeroValue3
 t4:=Tryz.underlying4
 a4:=Tryz.isAgg4
 z4:=Tryz.sizeOf4
 v4:=Tryz.zeroValue4
 t5:=Tryz.underlying5
 a5:=Tryz.isAgg5
 z5:=Tryz.sizeOf5
 v5:=Tryz.zeroValue5
 t9:=Tryz.underlying9
 a9:=Tryz.isAgg9
 z9:=Tryz.sizeOf9
 v9:=Tryz.zeroValue9
 t46:=Tryz.underlying219
 a46:=Tryz.isAgg219
 z46:=Tryz.sizeOf219
 v46:=Tryz.zeroValue219
 t51:=Tryz.underlying28
 a51:=Tryz.isAgg28
 z51:=Tryz.sizeOf28
 v51:=Tryz.zeroValue28 }
theorem Tryz.bits_Len32(x:Int)(w:World)(h0:0≤x)(h1:x≤4294967295):
 Calls Tryz.prog 152 #[.int .u32 x] w fun e w'=>e= .returned (.int .i64 (Lib.bitLen x.toNat))∧w'=w:=Any.bits_Len32 Tryz.lays128 x w h0 h1
end Go.Proofs
namespace Go.Proofs.YtdmhfogegfmnfaaGreatDoor
open Go.RowKit
section
open Go.ChangeShapes Go.WideShapes Go.ChangeAt Go.RowKit
theorem ret_i64{a b:Int}(h:a=b):Ending.returned (.int .i64 a)= .returned (.int .i64 b):=by rw[h]
theorem dv42z(x:Int):dv 42 x 0=4294967295:=by simp[dv]
theorem dv43z(x:Int):dv 43 x 0=4294967295:=by simp[dv]
theorem dv44z(x:Int):dv 44 x 0=x:=by simp[dv]
theorem dv45z(x:Int):dv 45 x 0=x:=by simp[dv]
theorem dd_z(op x:Int)(w:World)(hop:op=42∨op=43∨op=44∨op=45):
 Calls Tryz.prog 137 #[.int .i64 op,.int .u32 x,.int .u32 0] w fun e w'=>e= .returned (.int .u32 (dv op x 0))∧Below w.heap.size w w':=by
 rcases hop with rfl|rfl|rfl|rfl
 all_goals
  go_enter Tryz.func137,Tryz.ntmps137
  go_wp2
  all_goals go_ret
  all_goals refine⟨ret_u32 ?_,by(repeat(first|exact Below.refl _ _|refine Below.alloc ?_ (by simp) _|fail))⟩
 ·exact(dv42z x).symm
 ·exact(dv43z x).symm
 ·exact(dv44z x).symm
 ·exact(dv45z x).symm
theorem dd_42(x y:Int)(w:World)(h0:0≤x)(h1:x≤4294967295)(g0:1≤y)(g1:y≤4294967295):
 Calls Tryz.prog 137 #[.int .i64 42,.int .u32 x,.int .u32 y] w fun e w'=>e= .returned (.int .u32 (dv 42 x y))∧Below w.heap.size w w':=by
 have hy:(y== 0)=false:=by rw[beq_eq_false_iff_ne];omega
 rcases Int.lt_or_le x 2147483648 with cx|cx<;>rcases Int.lt_or_le y 2147483648 with cy|cy
 ·have a1:=wrap32_pos cx h0
  have a2:=wrap32_pos cy (by omega)
  have a3:=xor_same x y h0 (by omega) (by omega) (by omega) (by omega)
  go_enter Tryz.func137,Tryz.ntmps137
  go_wp2
  go_ret
  exact⟨ret_u32 (dv42_pp x y h0 cx g0 cy),by(repeat(first|exact Below.refl _ _|refine Below.alloc ?_ (by simp) _|fail))⟩
 ·have a1:=wrap32_pos cx h0
  have a2:=wrap32_neg cy (by omega)
  have a3:=xor_other x y h0 (by omega) (by omega) (by omega) (by omega)
  go_enter Tryz.func137,Tryz.ntmps137
  go_wp2
  go_ret
  exact⟨ret_u32 (dv42_pn x y h0 cx cy g1),by(repeat(first|exact Below.refl _ _|refine Below.alloc ?_ (by simp) _|fail))⟩
 ·have a1:=wrap32_neg cx h1
  have a2:=wrap32_pos cy (by omega)
  have a3:=xor_other x y h0 (by omega) (by omega) (by omega) (by omega)
  go_enter Tryz.func137,Tryz.ntmps137
  go_wp2
  go_ret
  exact⟨ret_u32 (dv42_np x y cx h1 g0 cy),by(repeat(first|exact Below.refl _ _|refine Below.alloc ?_ (by simp) _|fail))⟩
 ·have a1:=wrap32_neg cx h1
  have a2:=wrap32_neg cy (by omega)
  have a3:=xor_same x y h0 (by omega) (by omega) (by omega) (by omega)
  go_enter Tryz.func137,Tryz.ntmps137
  go_wp2
  go_ret
  exact⟨ret_u32 (dv42_nn x y cx h1 cy g1),by(repeat(first|exact Below.refl _ _|refine Below.alloc ?_ (by simp) _|fail))⟩
theorem dd_44(x y:Int)(w:World)(h0:0≤x)(h1:x≤4294967295)(g0:1≤y)(g1:y≤4294967295):
 Calls Tryz.prog 137 #[.int .i64 44,.int .u32 x,.int .u32 y] w fun e w'=>e= .returned (.int .u32 (dv 44 x y))∧Below w.heap.size w w':=by
 have hy:(y== 0)=false:=by rw[beq_eq_false_iff_ne];omega
 rcases Int.lt_or_le x 2147483648 with cx|cx<;>rcases Int.lt_or_le y 2147483648 with cy|cy
 ·have a1:=wrap32_pos cx h0
  have a2:=wrap32_pos cy (by omega)
  go_enter Tryz.func137,Tryz.ntmps137
  go_wp2
  go_ret
  exact⟨ret_u32 (dv44_pp x y h0 cx g0 cy),by(repeat(first|exact Below.refl _ _|refine Below.alloc ?_ (by simp) _|fail))⟩
 ·have a1:=wrap32_pos cx h0
  have a2:=wrap32_neg cy (by omega)
  go_enter Tryz.func137,Tryz.ntmps137
  go_wp2
  go_ret
  exact⟨ret_u32 (dv44_pn x y h0 cx cy g1),by(repeat(first|exact Below.refl _ _|refine Below.alloc ?_ (by simp) _|fail))⟩
 ·have a1:=wrap32_neg cx h1
  have a2:=wrap32_pos cy (by omega)
  go_enter Tryz.func137,Tryz.ntmps137
  go_wp2
  go_ret
  exact⟨ret_u32 (dv44_np x y cx h1 g0 cy),by(repeat(first|exact Below.refl _ _|refine Below.alloc ?_ (by simp) _|fail))⟩
 ·have a1:=wrap32_neg cx h1
  have a2:=wrap32_neg cy (by omega)
  go_enter Tryz.func137,Tryz.ntmps137
  go_wp2
  go_ret
  exact⟨ret_u32 (dv44_nn x y cx h1 cy g1),by(repeat(first|exact Below.refl _ _|refine Below.alloc ?_ (by simp) _|fail))⟩
theorem dd_43(x y:Int)(w:World)(h0:0≤x)(h1:x≤4294967295)(g0:1≤y)(g1:y≤4294967295):
 Calls Tryz.prog 137 #[.int .i64 43,.int .u32 x,.int .u32 y] w fun e w'=>e= .returned (.int .u32 (dv 43 x y))∧Below w.heap.size w w':=by
 have hy:(y== 0)=false:=by rw[beq_eq_false_iff_ne];omega
 go_enter Tryz.func137,Tryz.ntmps137
 go_wp2
 go_ret
 exact⟨ret_u32 (dv43 x y g0).symm,by(repeat(first|exact Below.refl _ _|refine Below.alloc ?_ (by simp) _|fail))⟩
theorem dd_45(x y:Int)(w:World)(h0:0≤x)(h1:x≤4294967295)(g0:1≤y)(g1:y≤4294967295):
 Calls Tryz.prog 137 #[.int .i64 45,.int .u32 x,.int .u32 y] w fun e w'=>e= .returned (.int .u32 (dv 45 x y))∧Below w.heap.size w w':=by
 have hy:(y== 0)=false:=by rw[beq_eq_false_iff_ne];omega
 go_enter Tryz.func137,Tryz.ntmps137
 go_wp2
 go_ret
 exact⟨ret_u32 (dv45 x y g0).symm,by(repeat(first|exact Below.refl _ _|refine Below.alloc ?_ (by simp) _|fail))⟩
theorem dd_any(op x y:Int)(w:World)(hop:op=42∨op=43∨op=44∨op=45)(h0:0≤x)(h1:x≤4294967295)(g0:0≤y)(g1:y≤4294967295):
 Calls Tryz.prog 137 #[.int .i64 op,.int .u32 x,.int .u32 y] w fun e w'=>e= .returned (.int .u32 (dv op x y))∧Below w.heap.size w w':=by
 by_cases hy:y=0
 ·subst hy;exact dd_z op x w hop
 ·rcases hop with rfl|rfl|rfl|rfl
  ·exact dd_42 x y w h0 h1 (by omega) g1
  ·exact dd_43 x y w h0 h1 (by omega) g1
  ·exact dd_44 x y w h0 h1 (by omega) g1
  ·exact dd_45 x y w h0 h1 (by omega) g1
theorem dsize_any(op x:Int)(w:World)(hop:42≤op∧op≤45)(h0:0≤x)(h1:x≤4294967295):
 Calls Tryz.prog 140 #[.int .i64 op,.int .u32 x] w fun e w'=>e= .returned (.int .u32 (szo op x))∧w=w':=by
 have hop:op=42∨op=43∨op=44∨op=45:=by omega
 rcases hop with rfl|rfl|rfl|rfl
 ·rcases Int.lt_or_le x 2147483648 with cx|cx
  ·have a1:=wrap32_pos cx h0
   go_enter Tryz.func140,Tryz.ntmps140
   go_wp2
   go_ret
   exact⟨ret_u32 (by rw[szo42,szz_p cx]),rfl⟩
  ·have a1:=wrap32_neg cx h1
   go_enter Tryz.func140,Tryz.ntmps140
   go_wp2
   go_ret
   exact⟨ret_u32 (by rw[szo42,szz_n cx];omega),rfl⟩
 ·go_enter Tryz.func140,Tryz.ntmps140
  go_wp2
  go_ret
  exact⟨ret_u32 (by rw[szo43]),rfl⟩
 ·rcases Int.lt_or_le x 2147483648 with cx|cx
  ·have a1:=wrap32_pos cx h0
   go_enter Tryz.func140,Tryz.ntmps140
   go_wp2
   go_ret
   exact⟨ret_u32 (by rw[szo44,szz_p cx]),rfl⟩
  ·have a1:=wrap32_neg cx h1
   go_enter Tryz.func140,Tryz.ntmps140
   go_wp2
   go_ret
   exact⟨ret_u32 (by rw[szo44,szz_n cx];omega),rfl⟩
 ·go_enter Tryz.func140,Tryz.ntmps140
  go_wp2
  go_ret
  exact⟨ret_u32 (by rw[szo45]),rfl⟩
theorem bits_any(x:Int)(w:World)(h0:0≤x)(h1:x≤4294967295):
 Calls Tryz.prog 141 #[.int .u32 x] w fun e w'=>e= .returned (.int .i64 (bl x))∧w=w':=by
 go_enter Tryz.func141,Tryz.ntmps141
 go_wp2_with (go_at_call 152;refine(Tryz.bits_Len32 _ _ (by omega) (by omega)).mono ?_;rintro e w' ⟨rfl,rfl⟩)
 go_ret
 exact⟨ret_i64 rfl,rfl⟩
theorem took_out(op x y:Int)(w:World)(hop:op<42∨45<op):
 Calls Tryz.prog 122 #[.int .i64 op,.int .u32 x,.int .u32 y] w fun e w'=>e= .returned (.int .i64 (tk op x y))∧w=w':=by
 have ht:=Lib.hid (tk_out x y hop)
 rcases hop with hop|hop
 all_goals
  go_enter Tryz.func122,Tryz.ntmps122
  go_wp2
  go_ret
  exact⟨ret_i64 ht.out.symm,rfl⟩
theorem took_in(op x y:Int)(w:World)(hop:42≤op∧op≤45)(h0:0≤x)(h1:x≤4294967295)(g0:0≤y)(g1:y≤4294967295):
 Calls Tryz.prog 122 #[.int .i64 op,.int .u32 x,.int .u32 y] w fun e w'=>e= .returned (.int .i64 (tk op x y))∧w=w':=by
 have s1:=szo_bd op h0 h1
 have s2:=szo_bd op g0 g1
 have b1:=bl_32 s1.1 s1.2
 have b2:=bl_32 s2.1 s2.2
 by_cases hy:y=0
 ·have hy':(y== 0)=true:=by rw[beq_iff_eq];omega
  have ht:=Lib.hid (tk_two (op:=op) x y hop (Or.inl hy))
  clear hy
  go_enter Tryz.func122,Tryz.ntmps122
  go_wp2_with (first|(go_at_call 140;refine(dsize_any _ _ _ (by omega) (by omega) (by omega)).mono ?_;rintro e w' ⟨rfl,rfl⟩)|fail)
  go_ret
  exact⟨ret_i64 ht.out.symm,rfl⟩
 ·have hy':(y== 0)=false:=by rw[beq_eq_false_iff_ne];omega
  by_cases c:szo op x<szo op y
  ·have ht:=Lib.hid (tk_two (op:=op) x y hop (Or.inr c))
   go_enter Tryz.func122,Tryz.ntmps122
   go_wp2_with (first|(go_at_call 140;refine(dsize_any _ _ _ (by omega) (by omega) (by omega)).mono ?_;rintro e w' ⟨rfl,rfl⟩)|fail)
   go_ret
   exact⟨ret_i64 ht.out.symm,rfl⟩
  ·have ht:=Lib.hid (tk_more (op:=op) x y hop hy (by omega))
   go_enter Tryz.func122,Tryz.ntmps122
   go_wp2_with (first|(go_at_call 140;refine(dsize_any _ _ _ (by omega) (by omega) (by omega)).mono ?_;rintro e w' ⟨rfl,rfl⟩)|(go_at_call 141;refine(bits_any _ _ (by omega) (by omega)).mono ?_;rintro e w' ⟨rfl,rfl⟩))
   go_ret
   exact⟨ret_i64 (by have:=ht.out;omega),rfl⟩
theorem took_any(op x y:Int)(w:World)(h0:0≤x)(h1:x≤4294967295)(g0:0≤y)(g1:y≤4294967295):
 Calls Tryz.prog 122 #[.int .i64 op,.int .u32 x,.int .u32 y] w fun e w'=>e= .returned (.int .i64 (tk op x y))∧w=w':=by
 by_cases h:op<42∨45<op
 ·exact took_out op x y w h
 ·exact took_in op x y w (by omega) h0 h1 g0 g1
theorem dv_else{op:Int}(x y:Int)(h:op<42∨45<op):dv op x y=0:=by
 unfold dv;rw[if_neg (by omega),if_neg (by omega),if_neg (by omega),if_neg (by omega)]
theorem dd_else(op x y:Int)(w:World)(hop:op<42∨45<op):
 Calls Tryz.prog 137 #[.int .i64 op,.int .u32 x,.int .u32 y] w fun e w'=>e= .returned (.int .u32 (dv op x y))∧Below w.heap.size w w':=by
 have e1:(op== 42)=false:=by rw[beq_eq_false_iff_ne];omega
 have e2:(op== 43)=false:=by rw[beq_eq_false_iff_ne];omega
 have e3:(op== 44)=false:=by rw[beq_eq_false_iff_ne];omega
 have e4:(op== 45)=false:=by rw[beq_eq_false_iff_ne];omega
 have hd:=Lib.hid (dv_else x y hop)
 clear hop
 go_enter Tryz.func137,Tryz.ntmps137
 go_wp2
 go_ret
 exact⟨ret_u32 hd.out.symm,by(repeat(first|exact Below.refl _ _|refine Below.alloc ?_ (by simp) _|fail))⟩
end
theorem imm_any(op:Int)(w:World):Calls Tryz.prog 138 #[.int .i64 op] w fun e w'=>e= .returned (.bool (immB op))∧w=w':=by
 go_enter Tryz.func138,Tryz.ntmps138
 go_wp2
 all_goals
  go_ret
  refine⟨ret_b ?_,rfl⟩
  unfold immB
  rw[Bool.eq_iff_iff]
  simp
  try omega
theorem dd_all(op x y:Int)(w:World)(h0:0≤x)(h1:x≤4294967295)(g0:0≤y)(g1:y≤4294967295):
 Calls Tryz.prog 137 #[.int .i64 op,.int .u32 x,.int .u32 y] w fun e w'=>e= .returned (.int .u32 (dv op x y))∧Below w.heap.size w w':=by
 by_cases h:op<42∨45<op
 ·exact dd_else op x y w h
 ·exact dd_any op x y w (by omega) h0 h1 g0 g1
theorem muU_any(op:Int)(a b:U)(w:World):Calls Tryz.prog 136 #[.int .i64 op,.int .u32 a.v,.int .u32 b.v] w fun e w'=>e= .returned (.int .u32 (muU op a b).v)∧w=w':=mul_all op a.v b.v w a.lo a.hi b.lo b.hi
theorem adU_any(op:Int)(a b:U)(w:World):Calls Tryz.prog 139 #[.int .i64 op,.int .u32 a.v,.int .u32 b.v] w fun e w'=>e= .returned (.int .u32 (adU op a b).v)∧w=w':=do_all op a.v b.v w a.lo a.hi b.lo b.hi
theorem dvU_any(op:Int)(a b:U)(w:World):Calls Tryz.prog 137 #[.int .i64 op,.int .u32 a.v,.int .u32 b.v] w fun e w'=>e= .returned (.int .u32 (dvU op a b).v)∧Below w.heap.size w w':=by
 have h:=dv_bd op a.v b.v a.lo a.hi b.lo b.hi
 have e:(dvU op a b).v=dv op a.v b.v:=by show dv op a.v b.v % 4294967296=_;omega
 rw[e]
 exact dd_all op a.v b.v w a.lo a.hi b.lo b.hi
theorem value_any(i:In)(pc a b:U)(w:World):Calls Tryz.prog 121 #[.agg (inC i),.int .u32 pc.v,.int .u32 a.v,.int .u32 b.v] w fun e w'=>e= .returned (.int .u32 (valU i pc a b).v)∧Below w.heap.size w w':=by
 have p1:(pc.v+i.imm.v) % 4294967296=(addU pc i.imm.v).v:=rfl
 have p2:(pc.v+4) % 4294967296=(addU pc 4).v:=rfl
 go_enter Tryz.func121,Tryz.ntmps121
 go_wp2_with (first|((with_reducible refine gD (Op.load 83 _) ?_);apply take_row row83 rfl _ rfl _ rfl (inC _) (inC_size _) (t:=83) (fr:=(0,0));(·(repeat((refine heap_at _ _ _ ?_;(with_reducible rfl)))));try simp only[Act.put,xA,xB,xC,fR])|(go_at_call 52;refine(kind_any _ _ _ _ _ _).mono ?_;rintro r w1 ⟨rfl,hb⟩;obtain⟨ow,kw,rfl⟩:=more_of hb;clear hb)|(go_at_call 136;refine(muU_any _ _ _ _).mono ?_;rintro r w1 ⟨rfl,rfl⟩)|(go_at_call 137;refine(dvU_any _ _ _ _).mono ?_;rintro r w1 ⟨rfl,hb⟩;obtain⟨ow,kw,rfl⟩:=more_of hb;clear hb)|(go_at_call 138;refine(imm_any _ _).mono ?_;rintro r w1 ⟨rfl,rfl⟩)|(go_at_call 139;refine(adU_any _ _ _ _).mono ?_;rintro r w1 ⟨rfl,rfl⟩))
 all_goals
  go_ret
  refine⟨ret_u ?_,?_⟩
  ·unfold valU
   simp_all
  ·(repeat(first|exact Below.refl _ _|(refine Below.alloc ?_ ?_ _;rotate_left;(omega))|(refine bl_more ?_ ?_ _ _;rotate_left;(simp only[sZ]<;>omega))))
def TgtP(i:In)(pc a b:U)(w:World)(e:Ending)(w':World):Prop:=e= .returned (.tuple #[.int .u32 (nxU i pc a b).v,.bool (tgtB i pc a b)])∧Below w.heap.size w w'
theorem nxU_any(i:In)(pc a b:U)(w:World):Calls Tryz.prog 142 #[.agg (inC i),.int .u32 pc.v,.int .u32 a.v,.int .u32 b.v] w fun e w'=>e= .returned (.int .u32 (nxU i pc a b).v)∧Below w.heap.size w w':=next_any i.op i.rd i.r1 i.r2 i.imm.v pc.v a.v b.v w i.imm.lo i.imm.hi pc.lo pc.hi a.lo a.hi b.lo b.hi
theorem target_any(i:In)(pc a b:U)(w:World):Calls Tryz.prog 123 #[.agg (inC i),.int .u32 pc.v,.int .u32 a.v,.int .u32 b.v] w (TgtP i pc a b w):=by
 have q0:=(nxU i pc a b).lo
 have q1:=(nxU i pc a b).hi
 go_enter Tryz.func123,Tryz.ntmps123
 go_wp2_with (first|((with_reducible refine gD (Op.load 83 _) ?_);apply take_row row83 rfl _ rfl _ rfl (inC _) (inC_size _) (t:=83) (fr:=(0,0));(·(repeat((refine heap_at _ _ _ ?_;(with_reducible rfl)))));try simp only[Act.put,xA,xB,xC,fR])|(go_at_call 142;refine(nxU_any _ _ _ _ _).mono ?_;rintro r w1 ⟨rfl,hb⟩;obtain⟨ow,kw,rfl⟩:=more_of hb;clear hb))
 go_ret2
 exact⟨rfl,by(repeat(first|exact Below.refl _ _|(refine Below.alloc ?_ ?_ _;rotate_left;(omega))|(refine bl_more ?_ ?_ _ _;rotate_left;(simp only[sZ]<;>omega))))⟩
def nearE(line:U)(e:En):Bool:=e.filled&&decide (lineU e.addr=line)
theorem near_any(w0 w:World)(g:Nat)(κ:Nat→Nat)(c:Co)(s:Ss)(line:U)(M:MS w0 w g κ c s):Calls Tryz.prog 120 #[.pointer (some ⟨g,0,none⟩),.int .u32 line.v] w fun e w'=>e= .returned (.bool (nearC c line))∧Below w.heap.size w w':=by
 have hgB:=M.r.gB.2
 have hc:=M.cells
 have HD:=Lib.hid (show ∀ j v,(#[Value.int .i64 c.data.ways,.slice s.data.a s.data.n s.data.c])[j]?=some v→w.cell? ⟨g,51+j,none⟩=some v from fun j v hv=>(hc _).trans (sub_data c s j v hv))
 have HR:=Lib.hid (show w.cell? ⟨g,48,none⟩=some (.slice s.rob.a s.rob.n s.rob.c)from hc 48)
 have HL:=Lib.hid M.r.rob.sl
 have HC:=Lib.hid M.r.data.toR
 have hn:=HL.out.few
 have E:=Lib.hid (show nearC c line=((findC c.data line).2.2||c.rob.any (nearE line))from rfl)
 have H:=Lo.start w
 clear hc M
 have HF:=Lib.hid (fun W h=>find_any s.data c.data line W h)
 unfold FinP at HF
 obtain⟨⟨f1,f2,f3⟩,hf⟩:∃ q,findC c.data line=q:=⟨_,rfl⟩
 rw[hf]at HF E
 clear hf
 generalize c.rob=L at HL E
 generalize s.rob.a=A at HL HR
 generalize s.rob.n=n at HL HR hn
 generalize s.rob.c=C at HR
 cases f3
 all_goals
  skip
  go_enter Tryz.func120,Tryz.ntmps120
  go_wp2_with (first|((with_reducible refine gL 35 14 ?_);refine st_lrow rfl row35 _ rfl g 51 rfl #[Value.int .i64 c.data.ways,.slice s.data.a s.data.n s.data.c] rfl (fun j v hv=>(H.bl.cell (p:=⟨g,_,none⟩) hgB).trans (HD.out j v hv)) ?_;try simp only[Act.put,xA,xB,xC,fR])|((with_reducible refine gL 31 25 ?_);refine st_lone rfl one31 _ rfl ⟨g,48,none⟩ rfl _ ((H.bl.cell (p:=⟨g,_,none⟩) hgB).trans HR.out) ?_;try simp only[Act.put,xA,xB,xC,fR])|(go_at_call 67;refine(HF.out _ (HC.out.below H.bl)).mono ?_;rintro r w1 ⟨rfl,hb⟩;replace H:=H.below hb))
 ·go_loopw [28] (fun i wr=>∃(k:Nat),k≤n∧i= .int .i64 (k:Int)∧Hid ((L.take k).any (nearE line)=false)∧Below w.heap.size w wr) (fun i _=>n-(intOf i).toNat)
  case atStart=>exact⟨0,Nat.zero_le _,rfl,Lib.hid (by simp),H.bl⟩
  case round=>
   clear H
   obtain⟨k,hk,rfl,HG,HB⟩:=hrel
   have hlen:=HL.out.len
   by_cases hlt:k<n
   ·obtain⟨gA,off,y,eA,hgA,hy,hc⟩:=HL.out.at_ hlt
    subst eA
    have HA:=Lib.hid hc
    have HY:=Lib.hid (show(L.take (k+1)).any (nearE line)=(y.filled&&decide (lineU y.addr=line)) by
     rw[List.take_add_one,hy,List.any_append,HG.out];simp[nearE])
    have HYi:=Lib.hid (show nearE line y=true→L.any (nearE line)=true from fun h=>List.any_eq_true.2 ⟨y,List.mem_of_getElem? hy,h⟩)
    have H:Lo w wr []:=⟨HB,(fun x hx=>by cases hx),List.Pairwise.nil⟩
    clear hy hc HB
    by_cases hf:y.filled=true
    ·by_cases hq:lineU y.addr=line
     ·have d1:((lineU y.addr).v== line.v)=true:=by rw[hq];simp
      have HX:=Lib.hid (HYi.out (by unfold nearE;rw[hf,hq];simp))
      go_wp2_with (first|((with_reducible refine gL 85 30 ?_);refine st_lrow rfl row85 _ rfl gA (off+k*17) rfl (enC y) rfl (fun j v hv=>(H.bl.cell (p:=⟨gA,_,none⟩) hgA).trans (HA.out j v hv)) ?_;try simp only[Act.put,xA,xB,xC,fR])|(go_at_call 28;refine(line_any' y.addr _).mono ?_;rintro r w1 ⟨rfl,rfl⟩)|((with_reducible refine gAl 85 ?_);refine st_Lal rfl (enC enZ) zero85 H rfl ?_;clear H;intro w1 b9 hlt1 hb1 H;go_frame)|((with_reducible refine gS 85 9 ?_);refine st_Lslw rfl cel85 _ _ _ H _ _ rfl rfl _ rfl rfl rfl rfl ?_;clear H;intro w1 ho1 H;go_frame)|((with_reducible refine gL 4 32 ?_);refine st_Lll1 rfl one4 H _ rfl _ 16 rfl _ 85 mm0 _ (enC_16 _) ?_;go_frame)|((with_reducible refine gL 28 35 ?_);refine sTj rfl ?_;refine wp_Lll1 one28 H _ rfl _ 12 rfl _ 85 mm0 _ (enC_12 _) ?_;go_frame))
      all_goals go_ret
      all_goals exact⟨by rw[E.out,Bool.false_or,HX.out];rfl,H.bl⟩
     ·have d1:((lineU y.addr).v== line.v)=false:=by
       rw[beq_eq_false_iff_ne]
       intro e
       exact hq (U.eq_of e)
      have HX:=Lib.hid (show(L.take (k+1)).any (nearE line)=false by rw[HY.out];simp[hq])
      go_wp2_with (first|((with_reducible refine gL 85 30 ?_);refine st_lrow rfl row85 _ rfl gA (off+k*17) rfl (enC y) rfl (fun j v hv=>(H.bl.cell (p:=⟨gA,_,none⟩) hgA).trans (HA.out j v hv)) ?_;try simp only[Act.put,xA,xB,xC,fR])|(go_at_call 28;refine(line_any' y.addr _).mono ?_;rintro r w1 ⟨rfl,rfl⟩)|((with_reducible refine gAl 85 ?_);refine st_Lal rfl (enC enZ) zero85 H rfl ?_;clear H;intro w1 b9 hlt1 hb1 H;go_frame)|((with_reducible refine gS 85 9 ?_);refine st_Lslw rfl cel85 _ _ _ H _ _ rfl rfl _ rfl rfl rfl rfl ?_;clear H;intro w1 ho1 H;go_frame)|((with_reducible refine gL 4 32 ?_);refine st_Lll1 rfl one4 H _ rfl _ 16 rfl _ 85 mm0 _ (enC_16 _) ?_;go_frame)|((with_reducible refine gL 28 35 ?_);refine sTj rfl ?_;refine wp_Lll1 one28 H _ rfl _ 12 rfl _ 85 mm0 _ (enC_12 _) ?_;go_frame))
      all_goals go_roundw
      all_goals first
       | exact⟨k+1,by omega,by go_num,HX,H.bl⟩|(simp[intOf];omega)
    ·have hf':y.filled=false:=by simpa using hf
     have HX:=Lib.hid (show(L.take (k+1)).any (nearE line)=false by rw[HY.out];simp[hf'])
     go_wp2_with (first|((with_reducible refine gL 85 30 ?_);refine st_lrow rfl row85 _ rfl gA (off+k*17) rfl (enC y) rfl (fun j v hv=>(H.bl.cell (p:=⟨gA,_,none⟩) hgA).trans (HA.out j v hv)) ?_;try simp only[Act.put,xA,xB,xC,fR])|((with_reducible refine gAl 85 ?_);refine st_Lal rfl (enC enZ) zero85 H rfl ?_;clear H;intro w1 b9 hlt1 hb1 H;go_frame)|((with_reducible refine gS 85 9 ?_);refine st_Lslw rfl cel85 _ _ _ H _ _ rfl rfl _ rfl rfl rfl rfl ?_;clear H;intro w1 ho1 H;go_frame)|((with_reducible refine gL 4 32 ?_);refine st_Lll1 rfl one4 H _ rfl _ 16 rfl _ 85 mm0 _ (enC_16 _) ?_;go_frame)|((with_reducible refine gL 28 35 ?_);refine sKp rfl ?_;go_frame))
     all_goals go_roundw
     all_goals first
      | exact⟨k+1,by omega,by go_num,HX,H.bl⟩|(simp[intOf];omega)
   ·have hkn:k=n:=by omega
    subst hkn
    go_wp2
    go_ret
    refine⟨?_,HB⟩
    rw[E.out,Bool.false_or,← List.take_of_length_le (l:=L) (i:=k) (by omega),HG.out]
    rfl
 ·go_ret
  exact⟨by rw[E.out,Bool.true_or];rfl,H.bl⟩
end Go.Proofs.YtdmhfogegfmnfaaGreatDoor
