/- Parts of the proof of ArchEnds: Y1 Y2. -/
import Derived.Test.YtfpijnhhdfoohaaGreatDoorM00
import Derived.Test.YtfpijnhhdfoohaaGreatDoorM22
import Derived.Test.YtfpijnhhdfoohaaGreatDoorM15
set_option linter.unusedVariables false
set_option linter.unusedSectionVars false
set_option linter.unusedSimpArgs false
set_option maxHeartbeats 8000000
set_option maxRecDepth 100000
namespace Go.Proofs.YtfpijnhhdfoohaaGreatDoor
open Go.RowKit Go.Fk
theorem Pn(v:Nat)(w:World)(h:1<=v)(q:v<65536) :
  Calls Tryz.prog 211 #[N v] w fun e z=>e=.returned (.tuple #[N (gK v),N (jE v)])/\Fr w z:=by
 have d:=ad (Tryz.bits_Len (v:Int) w (by omega) (by omega));have o:=Ei v h (by omega);rw [show((v:Int)).toNat=v by simp]at d;rw [o]at d;have F:=uJ v 16 h q;have G:=y8 v h;have B:Hid (v - 2 ^ gK v=jE v):=rfl;rw [show Nat.log2 v=gK v from rfl]at d;generalize gK v=b at *;have I:(2:Nat) ^ b<=2 ^ 15:=ep (by omega) (by omega);have J:(2:Nat) ^ 15=32768:=rfl;have K:IntKind.u64.wrap (v:Int)=v:=eu _ (by omega);have L:((b+1:Nat):Int) - 1=b:=by omega
 have D:(2:Int) ^ b=((2 ^ b:Nat):Int):=by simp
 clear o;go_enter Tryz.func211, Tryz.ntmps211;go_wp2_with fail;refine d.out.mono ?_;rintro e M ⟨rfl,rfl⟩;have O:(b:Int)<64:=by omega
 have Q:¬(b:Int)<0:=by omega
 generalize R:(2:Nat) ^ b=m at *;have U:IntKind.i64.wrap ((2:Int) ^ b)=(m:Int):=by rw [D];exact aw _ (by omega)
 have V:(v:Int) - (m:Int)=((v - m:Nat):Int):=by omega
 go_upto_region 2 with fail;go_region;all_goals go_wp2_with fail
 go_ret2;exact⟨by rw [<- B.out];rfl,(Fr.refl _).drew⟩
abbrev lX(t:aW):Value:=.agg #[.int .u8 (t.lit.toNat:Int),N t.len,N t.dist]
abbrev Ko(p:E9):Value:=.agg #[N p.sym,N p.len,N p.dist,N p.far]
theorem EF(t:aW)(w:World)(d:ez t=true) :
  Calls Tryz.prog 210 #[lX t] w fun e B=>e=.returned (.bool true)/\Fr w B:=by
 by_cases h:t.len=0;· have q:t.dist=0:=(by unfold ez at d;rw [ag h]at d;simpa using d);obtain⟨z,m,o⟩:=t;simp only at h q;subst h;subst q;clear d;generalize z.toNat=J at *;go_enter Tryz.func210, Tryz.ntmps210;go_wp2_with fail;go_ret;exact⟨rfl,(Fr.refl w).alloc _⟩
 · obtain⟨A,D,F,G,I⟩:=qL t d h;obtain⟨z,m,o⟩:=t;simp only at h A D F G I;subst A;have K:(3:Int)<=m:=(by omega);have L:(m:Int)<=257:=(by omega);have M:(1:Int)<=o:=(by omega);have O:(o:Int)<=4095:=(by omega);have Q:¬(m:Int)=0:=(by omega);have R:((m:Int) == 0)=false:=(by simp [h]);have U:((0:UInt8).toNat:Int)=0:=rfl;clear d;go_enter Tryz.func210, Tryz.ntmps210;go_wp2_with fail;go_ret;exact⟨rfl,(Fr.refl w).alloc _⟩
end Go.Proofs.YtfpijnhhdfoohaaGreatDoor
