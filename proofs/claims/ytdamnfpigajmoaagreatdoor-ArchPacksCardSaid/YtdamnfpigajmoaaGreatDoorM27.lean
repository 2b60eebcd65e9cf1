/- Parts of the proof of ArchPacks: Y1 Y2. -/
import Derived.Test.YtdamnfpigajmoaaGreatDoorM11
import Derived.Test.YtdamnfpigajmoaaGreatDoorM23
import Derived.Test.YtdamnfpigajmoaaGreatDoorM26
set_option linter.unusedVariables false
set_option linter.unusedSectionVars false
set_option linter.unusedSimpArgs false
set_option maxHeartbeats 8000000
set_option maxRecDepth 100000
namespace Go.Proofs.YtdamnfpigajmoaaGreatDoor
open Go.RowKit Go.Fk
theorem Hv(v:Nat)(w:World)(h:1<=v)(q:v<65536) :
  Calls Tryz.prog 254 #[N v] w fun e w'=>e=.returned (.tuple #[N (dB v),N (fe v)])/\Fr w w':=by
 have d:=ad (Tryz.bits_Len (v:Int) w (by omega) (by omega));have o:=Ax v h (by omega);rw [show((v:Int)).toNat=v by simp]at d;rw [o]at d;have D:=pz v 16 h q;have F:=rE v h;have y:Hid (v - 2 ^ dB v=fe v):=rfl;rw [show Nat.log2 v=dB v from rfl]at d;generalize dB v=b at *;have G:(2:Nat) ^ b<=2 ^ 15:=eC (by omega) (by omega);have I:(2:Nat) ^ 15=32768:=rfl;have J:IntKind.u64.wrap (v:Int)=v:=aX _ (by omega);have K:((b+1:Nat):Int) - 1=b:=by omega
 have z:(2:Int) ^ b=((2 ^ b:Nat):Int):=by simp
 clear o;go_enter Tryz.func254, Tryz.ntmps254;go_wp2_with fail;refine d.out.mono ?_;rintro e L ⟨rfl,rfl⟩;have M:(b:Int)<64:=by omega
 have O:¬(b:Int)<0:=by omega
 generalize Q:(2:Nat) ^ b=m at *;have R:IntKind.i64.wrap ((2:Int) ^ b)=(m:Int):=by rw [z];exact ar _ (by omega)
 have T:(v:Int) - (m:Int)=((v - m:Nat):Int):=by omega
 go_upto_region 2 with fail;go_region;all_goals go_wp2_with fail
 go_ret2;exact⟨by rw [<- y.out];rfl,(Fr.refl _).drew⟩
theorem Js(v:Nat)(w:World)(m:1<=v)(J:v<65536) :
  Calls Tryz.prog 235 #[N v] w fun e w'=>e=.returned (.tuple #[N (dB v),N (fe v)])/\Fr w w':=by
 have o:=ad (Hu v);have q:Hid (v - 2 ^ dB v=fe v):=rfl;go_enter Tryz.func235, Tryz.ntmps235;go_wp2_with fail;go_loopw [4,5] (fun y h wr=>∃ b p:Nat,y=N b/\h=N p/\Hid (p=2 ^ b)/\b<=p/\1<=p/\p<=v/\wr=w) (fun _ h _=>v - (intOf h).toNat);case atStart=>exact⟨0,1,rfl,rfl,rfl,by omega,by omega,m,rfl⟩
 case round=>
  obtain⟨b,p,rfl,rfl,d,K,L,z,rfl⟩:=hrel;by_cases A:2*p<=v
  · have D:2*(p:Int)<=v:=(by omega);have F:Hid (2*p=2 ^ (b+1)):=(by show _=_;rw [d.out,eA];omega);go_wp2_with fail;go_roundw;case rel=>exact⟨b+1,2*p,by go_num,by go_num,F,by omega,by omega,A,trivial⟩
    case measure=>simp [intOf];omega
  · have D:¬2*(p:Int)<=v:=(by omega);have G:=o.out b (by rw [<- d.out];exact z) (by rw [eA,<- d.out];omega);have I:Hid (v - p=fe v):=(by show _=_;rw [<- q.out,G,<- d.out]);have M:(v:Int) - p=((v - p:Nat):Int):=(by omega);go_wp2_with fail;go_ret2;exact⟨by rw [<- I.out];rfl,Fr.refl _⟩
abbrev kN(t:bF):Value:=.agg #[.int .u8 (t.lit.toNat:Int),N t.len,N t.dist]
abbrev yq(p:Be):Value:=.agg #[N p.sym,N p.len,N p.dist,N p.far]
theorem KX(t:bF)(w:World)(d:ft t=true) :
  Calls Tryz.prog 253 #[kN t] w fun e w'=>e=.returned (.bool true)/\Fr w w':=by
 by_cases h:t.len=0;· have q:t.dist=0:=(by unfold ft at d;rw [ai h]at d;simpa using d);obtain⟨y,m,o⟩:=t;simp only at h q;subst h;subst q;clear d;generalize y.toNat=I at *;go_enter Tryz.func253, Tryz.ntmps253;go_wp2_with fail;go_ret;exact⟨rfl,(Fr.refl w).alloc _⟩
 · obtain⟨z,A,D,F,G⟩:=nB t d h;obtain⟨y,m,o⟩:=t;simp only at h z A D F G;subst z;have J:(3:Int)<=m:=(by omega);have K:(m:Int)<=257:=(by omega);have L:(1:Int)<=o:=(by omega);have M:(o:Int)<=4095:=(by omega);have O:¬(m:Int)=0:=(by omega);have Q:((m:Int) == 0)=false:=(by simp [h]);have R:((0:UInt8).toNat:Int)=0:=rfl;clear d;go_enter Tryz.func253, Tryz.ntmps253;go_wp2_with fail;go_ret;exact⟨rfl,(Fr.refl w).alloc _⟩
theorem JO(t:bF)(w:World)(d:ft t=true) :
  Calls Tryz.prog 234 #[kN t] w fun e w'=>e=.returned (.bool true)/\Fr w w':=by
 by_cases h:t.len=0;· have q:t.dist=0:=(by unfold ft at d;rw [ai h]at d;simpa using d);obtain⟨y,m,o⟩:=t;simp only at h q;subst h;subst q;clear d;generalize y.toNat=I at *;go_enter Tryz.func234, Tryz.ntmps234;go_wp2_with fail;go_ret;exact⟨rfl,(Fr.refl w).alloc _⟩
 · obtain⟨z,A,D,F,G⟩:=nB t d h;obtain⟨y,m,o⟩:=t;simp only at h z A D F G;subst z;have J:(3:Int)<=m:=(by omega);have K:(m:Int)<=257:=(by omega);have L:(1:Int)<=o:=(by omega);have M:(o:Int)<=4095:=(by omega);have O:¬(m:Int)=0:=(by omega);have Q:((m:Int) == 0)=false:=(by simp [h]);have R:((0:UInt8).toNat:Int)=0:=rfl;clear d;go_enter Tryz.func234, Tryz.ntmps234;go_wp2_with fail;go_ret;exact⟨rfl,(Fr.refl w).alloc _⟩
end Go.Proofs.YtdamnfpigajmoaaGreatDoor
