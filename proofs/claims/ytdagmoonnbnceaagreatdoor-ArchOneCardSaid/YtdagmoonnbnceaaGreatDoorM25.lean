/- Parts of the proof of ArchOne: Y1 Y2. -/
import Derived.Test.YtdagmoonnbnceaaGreatDoorM07
import Derived.Test.YtdagmoonnbnceaaGreatDoorM23
import Derived.Test.YtdagmoonnbnceaaGreatDoorM24
set_option linter.unusedVariables false
set_option linter.unusedSectionVars false
set_option linter.unusedSimpArgs false
set_option maxHeartbeats 8000000
set_option maxRecDepth 100000
namespace Go.Proofs.YtdagmoonnbnceaaGreatDoor
open Go.RowKit Go.Fk
theorem class_any(v:Nat)(w:World)(h1:1<=v)(h2:v<65536) :
  Calls Tryz.prog 188 #[N v] w fun e w'=>e=.returned (.tuple #[N (clsK v),N (rstK v)])/\Fr w w':=by
 have HB:=hid (Tryz.bits_Len (v:Int) w (by omega) (by omega))
 have hlog:=bitLen_log v h1 (by omega)
 rw [show((v:Int)).toNat=v by simp]at HB
 rw [hlog]at HB
 have hc:=cls_small v 16 h1 h2
 have hle:=cls_le v h1
 have HR:Hid (v - 2 ^ clsK v=rstK v):=rfl
 rw [show Nat.log2 v=clsK v from rfl]at HB
 generalize clsK v=b at *
 have hp:(2:Nat) ^ b<=2 ^ 15:=Nat.pow_le_pow_right (by omega) (by omega)
 have hp0:(2:Nat) ^ 15=32768:=rfl
 have hw1:IntKind.u64.wrap (v:Int)=v:=IntWalk.u64_in _ (by omega)
 have hw2:((b+1:Nat):Int) - 1=b:=by omega
 have hpi:(2:Int) ^ b=((2 ^ b:Nat):Int):=by simp
 clear hlog
 go_enter Tryz.func188, Tryz.ntmps188
 go_wp2_with fail
 refine HB.out.mono ?_
 rintro e w1 ⟨rfl,rfl⟩
 have hi63:(b:Int)<64:=by omega
 have hn0:¬(b:Int)<0:=by omega
 generalize hpp:(2:Nat) ^ b=pw at *
 have hsh:IntKind.i64.wrap ((2:Int) ^ b)=(pw:Int):=by rw [hpi];exact IntWalk.i64_in _ (by omega)
 have hsb:(v:Int) - (pw:Int)=((v - pw:Nat):Int):=by omega
 go_upto_region 2 with fail
 go_region
 all_goals go_wp2_with fail
 go_ret2
 exact⟨by rw [<- HR.out];rfl,(Fr.refl _).drew⟩
abbrev tkV(t:Tok):Value:=.agg #[.int .u8 (t.lit.toNat:Int),N t.len,N t.dist]
abbrev pcV(p:Pce):Value:=.agg #[N p.sym,N p.len,N p.dist,N p.far]
theorem LMay_any(t:Tok)(w:World)(hm:mayT t=true) :
  Calls Tryz.prog 187 #[tkV t] w fun e w'=>e=.returned (.bool true)/\Fr w w':=by
 by_cases h0:t.len=0
 · have hd:t.dist=0:=by unfold mayT at hm;rw [if_pos h0]at hm;simpa using hm
   obtain⟨lit,len,dist⟩:=t
   simp only at h0 hd
   subst h0;subst hd
   clear hm
   generalize lit.toNat=ln at *
   go_enter Tryz.func187, Tryz.ntmps187
   go_wp2_with fail
   go_ret
   exact⟨rfl,(Fr.refl w).alloc _⟩
 · obtain⟨h1,h2,h3,h4,h5⟩:=mayT_len t hm h0
   obtain⟨lit,len,dist⟩:=t
   simp only at h0 h1 h2 h3 h4 h5
   subst h1
   have i1:(3:Int)<=len:=by omega
   have i2:(len:Int)<=257:=by omega
   have i3:(1:Int)<=dist:=by omega
   have i4:(dist:Int)<=4095:=by omega
   have i5:¬(len:Int)=0:=by omega
   have i6:((len:Int) == 0)=false:=by simp [h0]
   have hz:((0:UInt8).toNat:Int)=0:=rfl
   clear hm
   go_enter Tryz.func187, Tryz.ntmps187
   go_wp2_with fail
   go_ret
   exact⟨rfl,(Fr.refl w).alloc _⟩
end Go.Proofs.YtdagmoonnbnceaaGreatDoor
