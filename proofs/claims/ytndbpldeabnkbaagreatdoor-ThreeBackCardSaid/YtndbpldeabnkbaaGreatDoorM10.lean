/- Lemmas for ThreeTurned. -/
import Derived.Test.YtndbpldeabnkbaaGreatDoorM03
import Derived.Test.YtndbpldeabnkbaaGreatDoorM02
set_option linter.all false
set_option maxHeartbeats 8000000
namespace Go.Fk
abbrev axQb:=@Go.IntWalk.i64_in
abbrev dFQb:=@Go.IntWalk.u64_in
abbrev wJ:=@BitVec.toNat_and
abbrev zh:=@Nat.and_lt_two_pow
abbrev zf:=@Nat.or_lt_two_pow
abbrev zr:=@BitVec.toNat_xor
def sR(n:Int):IntKind.u8.wrap n=n%256:=by simp[IntKind.wrap,IntKind.bits,IntKind.signed]
def CM(n:Int):IntKind.u32.wrap n=n%4294967296:=by simp[IntKind.wrap,IntKind.bits,IntKind.signed]
def fV(n a:Nat)(h:a<2^n):(BitVec.ofInt n (a:Int)).toNat=a:=by
 rw[BitVec.ofInt_natCast,BitVec.toNat_ofNat];exact nI h
def uB(a b:Nat)(d:a<256)(e:b<256):bits .xor .u8 (a:Int) (b:Int)=((a ^^^ b:Nat):Int):=by
 have h:a ^^^ b<2^8:=jV ω ω;show IntKind.u8.wrap ((BitVec.ofInt 8 (a:Int) ^^^ BitVec.ofInt 8 (b:Int)).toNat:Int)=_;rw[zr,fV 8 a ω,fV 8 b ω,sR];omega
def IY(a b:Nat)(d:a<256)(e:b<256):bits .and .u8 (a:Int) (b:Int)=((a &&& b:Nat):Int):=by
 have h:a &&& b<2^8:=zh _ ω;show IntKind.u8.wrap ((BitVec.ofInt 8 (a:Int) &&& BitVec.ofInt 8 (b:Int)).toNat:Int)=_;rw[wJ,fV 8 a ω,fV 8 b ω,sR];omega
def Fe(a b:Nat)(d:a<256)(e:b<256):bits .or .u8 (a:Int) (b:Int)=((a ||| b:Nat):Int):=by
 have h:a ||| b<2^8:=zf ω ω;show IntKind.u8.wrap ((BitVec.ofInt 8 (a:Int) ||| BitVec.ofInt 8 (b:Int)).toNat:Int)=_;rw[BitVec.toNat_or,fV 8 a ω,fV 8 b ω,sR];omega
def sQ(a b:Nat)(d:a<4294967296)(e:b<4294967296):bits .xor .u32 (a:Int) (b:Int)=((a ^^^ b:Nat):Int):=by
 have h:a ^^^ b<2^32:=jV ω ω;show IntKind.u32.wrap ((BitVec.ofInt 32 (a:Int) ^^^ BitVec.ofInt 32 (b:Int)).toNat:Int)=_;rw[zr,fV 32 a ω,fV 32 b ω,CM];omega
def VL(a b:Nat)(d:a<4294967296)(e:b<4294967296):bits .and .u32 (a:Int) (b:Int)=((a &&& b:Nat):Int):=by
 have h:a &&& b<2^32:=zh _ ω;show IntKind.u32.wrap ((BitVec.ofInt 32 (a:Int) &&& BitVec.ofInt 32 (b:Int)).toNat:Int)=_;rw[wJ,fV 32 a ω,fV 32 b ω,CM];omega
def kf(n:Nat)(h:n<9223372036854775808):IntKind.i64.wrap (n:Int)=n:=by
 exact axQb _ ω
def Kn(a b:Nat)(d:a<9223372036854775808)(e:b<9223372036854775808):bits .xor .i64 (a:Int) (b:Int)=((a ^^^ b:Nat):Int):=by
 have h:a ^^^ b<2^63:=jV ω ω;show IntKind.i64.wrap ((BitVec.ofInt 64 (a:Int) ^^^ BitVec.ofInt 64 (b:Int)).toNat:Int)=_;rw[zr,fV 64 a ω,fV 64 b ω,kf _ ω]
def VM(a b:Nat)(d:a<9223372036854775808)(e:b<9223372036854775808):bits .and .i64 (a:Int) (b:Int)=((a &&& b:Nat):Int):=by
 have h:a &&& b<2^63:=zh _ ω;show IntKind.i64.wrap ((BitVec.ofInt 64 (a:Int) &&& BitVec.ofInt 64 (b:Int)).toNat:Int)=_;rw[wJ,fV 64 a ω,fV 64 b ω,kf _ ω]
def zC(w X:Nat)(h:X<2^w):X ^^^ (2^w-1)=2^w-1-X:=by
 have e:=dp BitVec.toNat (BitVec.xor_allOnes (x:=BitVec.ofNat w X));rw[zr,BitVec.toNat_not,BitVec.toNat_allOnes,BitVec.toNat_ofNat,nI h]at e;exact e
def PT(l:Z0)(i x:Nat)(h:i<l.length):gz i x (l.drop i)=if(i=9/\¬l[i].toNat=1)\/(0<i/\l[i].toNat=0)then(0,0,2)else if l[i].toNat<128 then(x+l[i].toNat%128*128^i,i+1,0)else gz (i+1) (x+l[i].toNat%128*128^i) (l.drop (i+1)):=by
 rw[gE h,gz]
def PU(l:Z0)(i x:Nat)(h:l.length<=i):gz i x (l.drop i)=(0,0,1):=by
 rw[uu h,gz]
def EU(i:Nat)(h:i<=9):128^i<=9223372036854775808:=by
 have d:(128:Nat)^i<=128^9:=fp ω h;have e:(128:Nat)^9=9223372036854775808:=δ
 omega
def OH(i:Nat):(128:Nat)^i=2^(7*i):=by rw[Nat.pow_mul]
def PP(i c x:Nat)(o:i<=9)(I:c<256)(z:x<128^i)(J:¬(i=9/\¬c=1)):x+c%128*128^i<128^(i+1)/\x+c%128*128^i<18446744073709551616/\x<18446744073709551616/\c%128*128^i<18446744073709551616:=by
 have A:=EU i o;have K:c%128<128:=jB _ ω;have D:c%128*128^i<=127*128^i:=bQ _ ω;have d:x+c%128*128^i<128^(i+1):=by rw[gC];omega
 have m:x<18446744073709551616:=ω
 rcases mV i 9 with h | h;·have L:=EU (i+1) ω;have F:x+c%128*128^i<18446744073709551616:=ω;exact⟨d,F,m,ω⟩
 ·obtain rfl:i=9:=ω;have G:c=1:=ω;subst G;have e:(128:Nat)^9=9223372036854775808:=δ;rw[e]at z A;refine⟨d,?_,m,?_⟩;·rw[e];clear d D;omega
  ·rw[e];decide
def VJ(c:Nat)(h:c<256):bits .andNot .u8 (c:Int) 128=((c%128:Nat):Int):=by
 have d:∀c:Fin 256,bits .andNot .u8 ((c:Nat):Int) 128=(((c:Nat)%128:Nat):Int):=by decide +kernel
 exact d ⟨c,h⟩
def Vu(l:Z0)(i:Nat)(h:i / 8<l.length):dU l i=l[i / 8].toNat / 2^(7-i%8)%2:=by
 unfold dU;rw[bq,bj h];rfl
def Vt(l:Z0)(i:Nat)(h:8*l.length<=i):dU l i=0:=by
 unfold dU;rw[bq,iW ω];simp
def yL(x:Nat)(h:x<18446744073709551616):bits .and .u64 (x:Int) 1=((x%2:Nat):Int):=by
 have d:x &&& 1<2^64:=zh _ ω;show IntKind.u64.wrap ((BitVec.ofInt 64 (x:Int) &&& BitVec.ofInt 64 ((1:Nat):Int)).toNat:Int)=_;rw[wJ,fV 64 x ω,fV 64 1 ω,dFQb _ ω,Nat.and_one_is_mod]
def Py(x b:Nat)(d:b<2):2*x ||| b=2*x+b:=by
 have:=Nat.two_pow_add_eq_or_of_lt (i:=1) (by omega:b<2^1) x;rw[<- this]
