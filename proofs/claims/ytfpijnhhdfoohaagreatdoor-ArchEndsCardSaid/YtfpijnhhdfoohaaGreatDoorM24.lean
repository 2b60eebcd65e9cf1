/- Parts of the proof of ArchEnds: Lib12. -/
import Derived.Test.YtfpijnhhdfoohaaGreatDoorM11
import Derived.Maps.Own
import Derived.Maps.Views
import Derived.WideKeyPair
set_option linter.unusedVariables false
set_option linter.unusedSectionVars false
set_option linter.unusedSimpArgs false
set_option maxHeartbeats 8000000
namespace Go.Fk
open Go.RowKit
open Go.Maps (Keyed IsMap atKey_put_same atKey_put_other)
open Go.WideMaps (ArrKey)
def k3(a b c:UInt8):Lit:=.string (Go.keyBytes [.int .u8 (a.toNat:Int),.int .u8 (b.toNat:Int),.int .u8 (c.toNat:Int)])
def v3(a b c:UInt8):Value:=.agg #[.int .u8 (a.toNat:Int),.int .u8 (b.toNat:Int),.int .u8 (c.toNat:Int)]
theorem vW(a:UInt8):(Lit.int .u8 (a.toNat:Int)).wf=true:=by
 have:=a.toNat_lt;simp only [Lit.wf,iH,fx];exact⟨by show(0:Int)<=_;omega,by show _<=(255:Int);omega⟩
theorem sg{P:Program}{k e:TypeId}(A:ArrKey P k e 3)(h:P.underlying e=some (.int .u8))(d:∃ m,P.types.size=m+1)(a b c:UInt8):keyOf P k (v3 a b c)=some (k3 a b c):=by
 have o:=A.keyType d;have z:=vW a;have B:=vW b;have wc:=vW c;obtain⟨m,D⟩:=d;unfold keyOf v3;simp only [A.hu];rw [ag (by simp [o,Value.formed,A.hu,A.size]),D];unfold Program.keyLits;simp only [A.hu,Value.cells];rw [ag (by rw [A.size];rfl),show List.range 3=[0,1,2]from rfl,List.mapM_cons,List.mapM_cons,List.mapM_cons,List.mapM_nil];simp [A.one,Program.keyLits,h,z,B,wc,k3]
theorem MA{P:Program}{k e:TypeId}(A:ArrKey P k e 3)(D:P.underlying e=some (.int .u8))(F:∃ m,P.types.size=m+1){a b c d o z:UInt8}(h:k3 a b c=k3 d o z):a=d/\b=o/\c=z:=by
 have G:=sg A D F a b c;rw [h]at G;have B:=A.law.inj G (sg A D F d o z);simp only [v3,Value.agg.injEq]at B;simp only [Array.mk.injEq,vF,Value.int.injEq,true_and,nU]at B;obtain⟨I,J,K⟩:=B;exact⟨eA.1 (by omega),eA.1 (by omega),eA.1 (by omega)⟩
def fu(w:World)(P:Program)(k e:TypeId)(b n:Nat)(f:UInt8->UInt8->UInt8->Option Nat):Prop:=
 ∃ D:Go.DataW Unit,w.ownsMap P k (plainElem P e) b n D/\IsMap D/\∀ x y z u,D.atKey (k3 x y z) u=match f x y z with | some p=>.lit (.int .i64 (p:Int)) | none=>u
section
variable {w w':World} {P:Program} {k e t q:TypeId} {b n:Nat} {f:UInt8->UInt8->UInt8->Option Nat}
theorem fu.made(w:World)(P:Program)(k e:TypeId):fu (w.alloc (.map #[] 0)) P k e w.heap.size 0 (fun _ _ _=>none):=
 ⟨_,World.ownsMap_made w P k _,⟨_,rfl⟩,fun _ _ _ _=>rfl⟩
theorem fu.lt(h:fu w P k e b n f):b<w.heap.size:=by obtain⟨D,h,_⟩:=h;exact h.lt
theorem fu.fr(h:fu w P k e b n f)(d:Fr w w'):fu w' P k e b n f:=by
 obtain⟨D,h,m⟩:=h;obtain⟨o,z,A,B⟩:=h;exact⟨D,⟨o,z,d.heap A,B⟩,m⟩
theorem fu.chg{G:Nat->Prop}(h:fu w P k e b n f)(d:ah G w w')(m:¬G b):fu w' P k e b n f:=by
 obtain⟨D,h,o⟩:=h;obtain⟨z,A,B,F⟩:=h;exact⟨D,⟨z,A,d.heap B m,F⟩,o⟩
theorem fu.congr{f':UInt8->UInt8->UInt8->Option Nat}(h:fu w P k e b n f)(d:∀ x y z,f x y z=f' x y z):fu w P k e b n f':=by
 obtain⟨D,h,m,o⟩:=h;exact⟨D,h,m,fun x y z u=>by rw [o,d]⟩
def qM(o:Option Nat):Value:=match o with | some p=>.tuple #[.int .i64 (p:Int),.bool true] | none=>.tuple #[.int .i64 0,.bool false]
theorem fu.look(h:fu w P k e b n f)(A:ArrKey P k q 3)(M:P.underlying q=some (.int .u8))(O:∃ m,P.types.size=m+1)(Q:P.underlying t=some (.map k e))(R:P.underlying e=some (.int .i64))(U:(zeroValue e).run P w=.ok (.int .i64 0) w)(x y z:UInt8) :
  (Instr.lookup t (.map (some b)) (v3 x y z) true).run P w=.ok (qM (f x y z)) w:=by
 obtain⟨D,⟨es,ac,V,F,hs,hD⟩,_,I⟩:=h;have X:=sg A M O x y z;rcases Maps.fit_look true (Keyed.of_law A.law) Q U V F X with⟨J,_,B⟩ | ⟨e0,r,_,_,J,Y,B,_⟩
 · rw [J]
   cases G:f x y z with
   | none=>rfl
   | some p=>exfalso;have d:=I x y z (.lit (.bool true));have o:=B (.lit (.bool true));rw [<- hD]at o;rw [o,G]at d;cases d
 · rw [J];obtain⟨i,Z,hr,_⟩:=plainElem_int_inv R Y
   cases G:f x y z with
   | none=>exfalso;have d:=I x y z (.lit (.bool true));have o:=B (.lit (.bool true));have K:=I x y z (.lit (.bool false));have L:=B (.lit (.bool false));rw [<- hD]at o L;rw [o,G]at d;rw [L,G]at K;rw [d]at K;cases K
   | some p=>have d:=I x y z (.lit (.bool true));have o:=B (.lit (.bool true));rw [<- hD]at o;rw [o,G,hr]at d;simp only [Go.DataW.lit.injEq,Lit.int.injEq,true_and]at d;rw [Z,d];rfl
theorem fu.put{D:Go.DataW Unit}{p:Nat}{x y z:UInt8}(A:ArrKey P k q 3)(G:P.underlying q=some (.int .u8))(I:∃ m,P.types.size=m+1)(hD:IsMap D)(J:∀ x y z u,D.atKey (k3 x y z) u=match f x y z with | some p=>.lit (.int .i64 (p:Int)) | none=>u)
  (h:w'.ownsMap P k (plainElem P e) b n (D.put (k3 x y z) (.lit (.int .i64 (p:Int))))):fu w' P k e b n (fun d o B=>if d=x/\o=y/\B=z then some p else f d o B):=by
 refine⟨_,h,?_,fun d o B u=>?_⟩;· obtain⟨K,rfl⟩:=hD;exact⟨_,rfl⟩
 · show _=match (if d=x/\o=y/\B=z then some p else f d o B)with | some p=>_ | none=>_;by_cases F:d=x/\o=y/\B=z;· obtain⟨rfl,rfl,rfl⟩:=F;rw [ag ⟨rfl,rfl,rfl⟩,atKey_put_same hD ((Keyed.of_law A.law).key (sg A G I _ _ _))]
   · rw [ae F,atKey_put_other (fun h=>F (MA A G I h)),J]
theorem fu.upd{p:Nat}(h:fu w P k e b n f)(A:ArrKey P k q 3)(d:P.underlying q=some (.int .u8))(o:∃ m,P.types.size=m+1)(I:P.underlying t=some (.map k e))(J:P.underlying e=some (.int .i64))(K:n<maxLen)(V:p<9223372036854775808)(x y z:UInt8) :
  ∃ w',(Instr.mapUpdate t (.map (some b)) (v3 x y z) (.int .i64 (p:Int))).run P w=.ok () w'/\fu w' P k e b (n+1) (fun B F G=>if B=x/\F=y/\G=z then some p else f B F G)/\ah (fun k=>k=b) w w':=by
 obtain⟨D,L,hD,M⟩:=h;have O:(Lit.int .i64 (p:Int)).wf=true:=by simp only [Lit.wf,iH,fx];exact⟨by show(-9223372036854775808:Int)<=_;omega,by show _<=(9223372036854775807:Int);omega⟩
 obtain⟨w',Q,R,U⟩:=L.update (Keyed.of_law A.law) I K (sg A d o x y z) (plainElem_int J O);exact⟨w',Q,fu.put A d o hD M R,(lL U).mono (fun k _ h=>by simpa using h.symm)⟩
end
end Go.Fk
