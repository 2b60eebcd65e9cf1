/- Lemmas. -/
import Derived.Test.YtmcaneofjlhhmaaGreatDoorM24
import Derived.Test.YtmcaneofjlhhmaaGreatDoorM14
set_option linter.all false
set_option maxHeartbeats 8000000
set_option maxRecDepth 100000
namespace Go.Proofs
open RowKit Fk Tryz
abbrev ki(t:bW):Value:=.agg #[.int .u8 (t.lit.toNat:Int),N t.len,N t.dist]
abbrev Ru(p:Fh):Value:=.agg #[N p.sym,N p.len,N p.dist,N p.far]
def Q2(t:bW)(w:World)(d:gR t=true):Calls prog 299 #[ki t] w λe w'=>e=.returned (.bool true)/\Fr w w':=by
 by_cases h:t.len=0;·have p:t.dist=0:=(by unfold gR at d;rw[an h]at d;simpa using d);obtain⟨q,m,o⟩:=t;simp only at h p;subst h;subst p;clear d;generalize q.toNat=I at *;go_in;go_wp2;go_ret;exact⟨rfl,(Fr.refl w).alloc _⟩
 ·obtain⟨z,A,D,F,G⟩:=pW t d h;obtain⟨q,m,o⟩:=t;simp only at h z A D F G;subst z;have J:(3:Int)<=m:=ω;have K:(m:Int)<=257:=ω;have L:(1:Int)<=o:=ω;have M:(o:Int)<=4095:=ω;have O:¬(m:Int)=0:=ω;have Q:((m:Int) == 0)=false:=(by simp[h]);have R:((0:UInt8).toNat:Int)=0:=rfl;clear d;go_in;go_wp2;go_ret;exact⟨rfl,(Fr.refl w).alloc _⟩
def PF(t:bW)(w:World)(d:gR t=true):Calls prog 224 #[ki t] w λe w'=>e=.returned (.bool true)/\Fr w w':=by
 by_cases h:t.len=0;·have p:t.dist=0:=(by unfold gR at d;rw[an h]at d;simpa using d);obtain⟨q,m,o⟩:=t;simp only at h p;subst h;subst p;clear d;generalize q.toNat=I at *;go_in;go_wp2;go_ret;exact⟨rfl,(Fr.refl w).alloc _⟩
 ·obtain⟨z,A,D,F,G⟩:=pW t d h;obtain⟨q,m,o⟩:=t;simp only at h z A D F G;subst z;have J:(3:Int)<=m:=ω;have K:(m:Int)<=257:=ω;have L:(1:Int)<=o:=ω;have M:(o:Int)<=4095:=ω;have O:¬(m:Int)=0:=ω;have Q:((m:Int) == 0)=false:=(by simp[h]);have R:((0:UInt8).toNat:Int)=0:=rfl;clear d;go_in;go_wp2;go_ret;exact⟨rfl,(Fr.refl w).alloc _⟩
