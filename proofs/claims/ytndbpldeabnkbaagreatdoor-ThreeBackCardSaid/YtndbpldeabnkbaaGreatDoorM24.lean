/- Lemmas for ThreeTurned. -/
import Derived.Test.YtndbpldeabnkbaaGreatDoorM22
import Derived.Test.YtndbpldeabnkbaaGreatDoorM23
set_option linter.all false
set_option maxHeartbeats 8000000
set_option maxRecDepth 100000
namespace Go.Proofs.YtndbpldeabnkbaaGreatDoor
open Go.RowKit Go.Fk
def Uy(v:Nat)(w:World)(h:1<=v)(z:v<65536):Calls Tryz.prog 229 #[N v] w λe w'=>e=.returned (.tuple #[N (fx v),N (ix v)])/\Fr w w':=by
 have d:=ad (Tryz.bits_Len (v:Int) w ω ω);have o:=II v h ω;rw[show((v:Int)).toNat=v by simp]at d;rw[o]at d;have G:=yx v 16 h z;have I:=yy v h;have D:Hid (v-2^fx v=ix v):=rfl;rw[show Nat.log2 v=fx v from rfl]at d;generalize fx v=b at *;have J:(2:Nat)^b<=2^15:=fp ω ω;have K:(2:Nat)^15=32768:=rfl;have L:=dF (v:Int) ω;have M:((b+1:Nat):Int)-1=b:=ω
 have F:(2:Int)^b=((2^b:Nat):Int):=σ
 clear o;go_in;go_wp2_with fail;refine d.out.mono ?_;rintro e O ⟨rfl,rfl⟩;have Q:(b:Int)<64:=ω
 have R:¬(b:Int)<0:=ω
 generalize U:(2:Nat)^b=m at *;have V:IntKind.i64.wrap ((2:Int)^b)=(m:Int):=by rw[F];exact ax _ ω
 have X:(v:Int)-(m:Int)=((v-m:Nat):Int):=ω
 go_upto_region 2 with fail;go_region;all_goals go_wp2_with fail
 go_ret2;exact⟨by rw[<- D.out];rfl,(Fr.refl _).drew⟩
abbrev nM(t:aU):Value:=.agg #[.int .u8 (t.lit.toNat:Int),N t.len,N t.dist]
abbrev OZ(p:J0):Value:=.agg #[N p.sym,N p.len,N p.dist,N p.far]
def J6(t:aU)(w:World)(d:ex t=true):Calls Tryz.prog 228 #[nM t] w λe w'=>e=.returned (.bool true)/\Fr w w':=by
 by_cases h:t.len=0;·have z:t.dist=0:=(by unfold ex at d;rw[af h]at d;simpa using d);obtain⟨A,m,o⟩:=t;simp only at h z;subst h;subst z;clear d;generalize A.toNat=K at *;go_in;go_wp2;go_ret;exact⟨rfl,(Fr.refl w).alloc _⟩
 ·obtain⟨D,F,G,I,J⟩:=qT t d h;obtain⟨A,m,o⟩:=t;simp only at h D F G I J;subst D;have L:(3:Int)<=m:=ω;have M:(m:Int)<=257:=ω;have O:(1:Int)<=o:=ω;have Q:(o:Int)<=4095:=ω;have R:¬(m:Int)=0:=ω;have U:((m:Int) == 0)=false:=(by simp[h]);have V:((0:UInt8).toNat:Int)=0:=rfl;clear d;go_in;go_wp2;go_ret;exact⟨rfl,(Fr.refl w).alloc _⟩
