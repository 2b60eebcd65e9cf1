/- Parts of the proof of ArchEnds: Bits SpecJj SpecJk. -/
import Derived.Laws.Bits64b
import Derived.Test.YtfpijnhhdfoohaaGreatDoorM02
import Derived.Test.YtfpijnhhdfoohaaGreatDoorM01
set_option linter.unusedVariables false
set_option linter.unusedSectionVars false
set_option linter.unusedSimpArgs false
set_option maxHeartbeats 8000000
namespace Go.Fk
abbrev awQb:=@Go.IntWalk.i64_in
abbrev eu:=@Go.IntWalk.u64_in
abbrev tx:=@List.drop_of_length_le
abbrev tB:=@BitVec.toNat_and
abbrev vx:=@Nat.and_lt_two_pow
abbrev vo:=@Nat.or_lt_two_pow
abbrev vH:=@BitVec.toNat_xor
abbrev ti:=@Nat.lt_or_ge
end Go.Fk
namespace Go.Fk
theorem qu(n:Int):IntKind.u8.wrap n=n % 256:=by simp [IntKind.wrap,IntKind.bits,IntKind.signed]
theorem zI(n:Int):IntKind.u32.wrap n=n % 4294967296:=by simp [IntKind.wrap,IntKind.bits,IntKind.signed]
theorem ek(n a:Nat)(h:a<2 ^ n):(BitVec.ofInt n (a:Int)).toNat=a:=by
 rw [BitVec.ofInt_natCast,BitVec.toNat_ofNat];exact oU h
theorem tF(a b:Nat)(d:a<256)(e:b<256):bits .xor .u8 (a:Int) (b:Int)=((a ^^^ b:Nat):Int):=by
 have h:a ^^^ b<2 ^ 8:=jz (by omega) (by omega);show IntKind.u8.wrap ((BitVec.ofInt 8 (a:Int) ^^^ BitVec.ofInt 8 (b:Int)).toNat:Int)=_;rw [vH,ek 8 a (by omega),ek 8 b (by omega),qu];omega
theorem Eo(a b:Nat)(d:a<256)(e:b<256):bits .and .u8 (a:Int) (b:Int)=((a &&& b:Nat):Int):=by
 have h:a &&& b<2 ^ 8:=vx _ (by omega);show IntKind.u8.wrap ((BitVec.ofInt 8 (a:Int) &&& BitVec.ofInt 8 (b:Int)).toNat:Int)=_;rw [tB,ek 8 a (by omega),ek 8 b (by omega),qu];omega
theorem BC(a b:Nat)(d:a<256)(e:b<256):bits .or .u8 (a:Int) (b:Int)=((a ||| b:Nat):Int):=by
 have h:a ||| b<2 ^ 8:=vo (by omega) (by omega);show IntKind.u8.wrap ((BitVec.ofInt 8 (a:Int) ||| BitVec.ofInt 8 (b:Int)).toNat:Int)=_;rw [BitVec.toNat_or,ek 8 a (by omega),ek 8 b (by omega),qu];omega
theorem qr(a b:Nat)(d:a<4294967296)(e:b<4294967296):bits .xor .u32 (a:Int) (b:Int)=((a ^^^ b:Nat):Int):=by
 have h:a ^^^ b<2 ^ 32:=jz (by omega) (by omega);show IntKind.u32.wrap ((BitVec.ofInt 32 (a:Int) ^^^ BitVec.ofInt 32 (b:Int)).toNat:Int)=_;rw [vH,ek 32 a (by omega),ek 32 b (by omega),zI];omega
theorem Q1(a b:Nat)(d:a<4294967296)(e:b<4294967296):bits .and .u32 (a:Int) (b:Int)=((a &&& b:Nat):Int):=by
 have h:a &&& b<2 ^ 32:=vx _ (by omega);show IntKind.u32.wrap ((BitVec.ofInt 32 (a:Int) &&& BitVec.ofInt 32 (b:Int)).toNat:Int)=_;rw [tB,ek 32 a (by omega),ek 32 b (by omega),zI];omega
theorem iJ(n:Nat)(h:n<9223372036854775808):IntKind.i64.wrap (n:Int)=n:=by
 exact awQb _ (by omega)
theorem Fw(a b:Nat)(d:a<9223372036854775808)(e:b<9223372036854775808):bits .xor .i64 (a:Int) (b:Int)=((a ^^^ b:Nat):Int):=by
 have h:a ^^^ b<2 ^ 63:=jz (by omega) (by omega);show IntKind.i64.wrap ((BitVec.ofInt 64 (a:Int) ^^^ BitVec.ofInt 64 (b:Int)).toNat:Int)=_;rw [vH,ek 64 a (by omega),ek 64 b (by omega),iJ _ (by omega)]
theorem Q2(a b:Nat)(d:a<9223372036854775808)(e:b<9223372036854775808):bits .and .i64 (a:Int) (b:Int)=((a &&& b:Nat):Int):=by
 have h:a &&& b<2 ^ 63:=vx _ (by omega);show IntKind.i64.wrap ((BitVec.ofInt 64 (a:Int) &&& BitVec.ofInt 64 (b:Int)).toNat:Int)=_;rw [tB,ek 64 a (by omega),ek 64 b (by omega),iJ _ (by omega)]
theorem zD(w X:Nat)(h:X<2 ^ w):X ^^^ (2 ^ w - 1)=2 ^ w - 1 - X:=by
 have e:=gS BitVec.toNat (BitVec.xor_allOnes (x:=BitVec.ofNat w X));rw [vH,BitVec.toNat_not,BitVec.toNat_allOnes,BitVec.toNat_ofNat,oU h]at e;exact e
theorem Lo(l:List UInt8)(i x:Nat)(h:i<l.length):fI i x (l.drop i)=if(i=9/\¬l[i].toNat=1)\/(0<i/\l[i].toNat=0)then(0,0,2)else if l[i].toNat<128 then(x+l[i].toNat % 128*128 ^ i,i+1,0)else fI (i+1) (x+l[i].toNat % 128*128 ^ i) (l.drop (i+1)):=by
 rw [ip h,fI]
theorem Lp(l:List UInt8)(i x:Nat)(h:l.length<=i):fI i x (l.drop i)=(0,0,1):=by
 rw [tx h,fI]
theorem By(i:Nat)(h:i<=9):128 ^ i<=9223372036854775808:=by
 have d:(128:Nat) ^ i<=128 ^ 9:=ep (by omega) h;have e:(128:Nat) ^ 9=9223372036854775808:=by decide
 omega
theorem JZ(i:Nat):(128:Nat) ^ i=2 ^ (7*i):=by rw [Nat.pow_mul]
theorem Lm(i c x:Nat)(o:i<=9)(F:c<256)(q:x<128 ^ i)(G:¬(i=9/\¬c=1)):x+c % 128*128 ^ i<128 ^ (i+1)/\x+c % 128*128 ^ i<18446744073709551616/\x<18446744073709551616/\c % 128*128 ^ i<18446744073709551616:=by
 have z:=By i o;have I:c % 128<128:=kH _ (by omega);have A:c % 128*128 ^ i<=127*128 ^ i:=dm _ (by omega);have d:x+c % 128*128 ^ i<128 ^ (i+1):=by rw [kG];omega
 have m:x<18446744073709551616:=by omega
 rcases ti i 9 with h | h;· have J:=By (i+1) (by omega);have B:x+c % 128*128 ^ i<18446744073709551616:=(by omega);exact⟨d,B,m,by omega⟩
 · obtain rfl:i=9:=(by omega);have D:c=1:=(by omega);subst D;have e:(128:Nat) ^ 9=9223372036854775808:=(by decide);rw [e]at q z;refine⟨d,?_,m,?_⟩;· rw [e];clear d A;omega
   · rw [e];decide
theorem Qz(c:Nat)(h:c<256):bits .andNot .u8 (c:Int) 128=((c % 128:Nat):Int):=by
  have d:∀ c:Fin 256,bits .andNot .u8 ((c:Nat):Int) 128=(((c:Nat) % 128:Nat):Int):=(by decide +kernel);exact d ⟨c,h⟩
theorem PX(l:List UInt8)(i:Nat)(h:i / 8<l.length):fs l i=l[i / 8].toNat / 2 ^ (7 - i % 8) % 2:=by
 unfold fs;rw [cD,bE h];rfl
theorem PW(l:List UInt8)(i:Nat)(h:8*l.length<=i):fs l i=0:=by
 unfold fs;rw [cD,io (by omega)];simp
theorem uU(x:Nat)(h:x<18446744073709551616):bits .and .u64 (x:Int) 1=((x % 2:Nat):Int):=by
 have d:x &&& 1<2 ^ 64:=vx _ (by omega);show IntKind.u64.wrap ((BitVec.ofInt 64 (x:Int) &&& BitVec.ofInt 64 ((1:Nat):Int)).toNat:Int)=_;rw [tB,ek 64 x (by omega),ek 64 1 (by omega),eu _ (by omega),Nat.and_one_is_mod]
theorem KG(x b:Nat)(d:b<2):2*x ||| b=2*x+b:=by
 have:=Nat.two_pow_add_eq_or_of_lt (i:=1) (by omega:b<2 ^ 1) x;rw [<- this]
end Go.Fk
