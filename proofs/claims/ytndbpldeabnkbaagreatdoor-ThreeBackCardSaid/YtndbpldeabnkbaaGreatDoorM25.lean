/- Lemmas for ThreeTurned. -/
import Derived.Test.YtndbpldeabnkbaaGreatDoorM07
set_option linter.all false
set_option maxHeartbeats 8000000
namespace Go.Fk
open Go.RowKit
open Go.Maps (Keyed IsMap atKey_put_same atKey_put_other)
open Go.WideMaps (ArrKey)
def k3(a b c:UInt8):Lit:=.string (Go.keyBytes [.int .u8 (a.toNat:Int),.int .u8 (b.toNat:Int),.int .u8 (c.toNat:Int)])
def v3(a b c:UInt8):Value:=.agg #[.int .u8 (a.toNat:Int),.int .u8 (b.toNat:Int),.int .u8 (c.toNat:Int)]
def zK(a:UInt8):(Lit.int .u8 (a.toNat:Int)).wf=true:=by
 have:=a.toNat_lt;simp only[Lit.wf,fL,en];exact⟨by show(0:Int)<=_;omega,by show _<=(255:Int);omega⟩
def vw{P:Program}{k e:TypeId}(A:ArrKey P k e 3)(h:P.underlying e=some (.int .u8))(d:∃m,P.types.size=m+1)(a b c:UInt8):keyOf P k (v3 a b c)=some (k3 a b c):=by
 have o:=A.keyType d;have z:=zK a;have D:=zK b;have wc:=zK c;obtain⟨m,F⟩:=d;unfold keyOf v3;simp only[A.hu];rw[af (by simp[o,Value.formed,A.hu,A.size]),F];unfold Program.keyLits;simp only[A.hu,Value.cells];rw[af (by rw[A.size];rfl),show List.range 3=[0,1,2]from rfl,List.mapM_cons,List.mapM_cons,List.mapM_cons,List.mapM_nil];simp[A.one,Program.keyLits,h,z,D,wc,k3]
def Rx{P:Program}{k e:TypeId}(A:ArrKey P k e 3)(F:P.underlying e=some (.int .u8))(G:∃m,P.types.size=m+1){a b c d o z:UInt8}(h:k3 a b c=k3 d o z):a=d/\b=o/\c=z:=by
 have I:=vw A F G a b c;rw[h]at I;have D:=A.law.inj I (vw A F G d o z);simp only[v3,Value.agg.injEq]at D;simp only[Array.mk.injEq,q7,Value.int.injEq,true_and,mr]at D;obtain⟨J,K,L⟩:=D;exact⟨eP.1 ω,eP.1 ω,eP.1 ω⟩
def ik(w:World)(P:Program)(k e:TypeId)(b n:Nat)(f:UInt8->UInt8->UInt8->Option Nat):Prop:=
 ∃D:Go.DataW Unit,w.ownsMap P k (plainElem P e) b n D/\IsMap D/\∀x y z u,D.atKey (k3 x y z) u=match f x y z with | some p=>.lit (.int .i64 (p:Int)) | none=>u
section
variable {w w':World} {P:Program} {k e t q:TypeId} {b n:Nat} {f:UInt8->UInt8->UInt8->Option Nat}
theorem ik.made(w:World)(P:Program)(k e:TypeId):ik (w.alloc (.map #[] 0)) P k e w.heap.size 0 (λ_ _ _=>none):=
 ⟨_,World.ownsMap_made w P k _,⟨_,rfl⟩,λ_ _ _ _=>rfl⟩
theorem ik.lt(h:ik w P k e b n f):b<w.heap.size:=by obtain⟨D,h,_⟩:=h;exact h.lt
theorem ik.fr(h:ik w P k e b n f)(d:Fr w w'):ik w' P k e b n f:=by
 obtain⟨D,h,m⟩:=h;obtain⟨o,z,A,F⟩:=h;exact⟨D,⟨o,z,d.heap A,F⟩,m⟩
theorem ik.chg{G:Nat->Prop}(h:ik w P k e b n f)(d:ai G w w')(m:¬G b):ik w' P k e b n f:=by
 obtain⟨D,h,o⟩:=h;obtain⟨z,A,F,I⟩:=h;exact⟨D,⟨z,A,d.heap F m,I⟩,o⟩
theorem ik.congr{f':UInt8->UInt8->UInt8->Option Nat}(h:ik w P k e b n f)(d:∀x y z,f x y z=f' x y z):ik w P k e b n f':=by
 obtain⟨D,h,m,o⟩:=h;exact⟨D,h,m,λx y z u=>by rw[o,d]⟩
def tB(o:Option Nat):Value:=match o with | some p=>.tuple #[.int .i64 (p:Int),.bool true] | none=>.tuple #[.int .i64 0,.bool false]
theorem ik.look(h:ik w P k e b n f)(A:ArrKey P k q 3)(O:P.underlying q=some (.int .u8))(Q:∃m,P.types.size=m+1)(R:P.underlying t=some (.map k e))(U:P.underlying e=some (.int .i64))(V:(zeroValue e).run P w=.ok (.int .i64 0) w)(x y z:UInt8):(Instr.lookup t (.map (some b)) (v3 x y z) true).run P w=.ok (tB (f x y z)) w:=by
 obtain⟨D,⟨es,aj,X,F,hs,hD⟩,_,J⟩:=h;have Y:=vw A O Q x y z;rcases Maps.fit_look true (Keyed.of_law A.law) R V X F Y with⟨K,_,G⟩ | ⟨e0,r,_,_,K,Z,G,_⟩
 ·rw[K]
  cases I:f x y z with
  | none=>rfl
  | some p=>exfalso;have d:=J x y z (.lit (.bool true));have o:=G (.lit (.bool true));rw[<- hD]at o;rw[o,I]at d;cases d
 ·rw[K];obtain⟨i,hv,hr,_⟩:=plainElem_int_inv U Z
  cases I:f x y z with
  | none=>exfalso;have d:=J x y z (.lit (.bool true));have o:=G (.lit (.bool true));have L:=J x y z (.lit (.bool false));have M:=G (.lit (.bool false));rw[<- hD]at o M;rw[o,I]at d;rw[M,I]at L;rw[d]at L;cases L
  | some p=>have d:=J x y z (.lit (.bool true));have o:=G (.lit (.bool true));rw[<- hD]at o;rw[o,I,hr]at d;simp only[Go.DataW.lit.injEq,Lit.int.injEq,true_and]at d;rw[hv,d];rfl
theorem ik.put{D:Go.DataW Unit}{p:Nat}{x y z:UInt8}(A:ArrKey P k q 3)(I:P.underlying q=some (.int .u8))(J:∃m,P.types.size=m+1)(hD:IsMap D)(K:∀x y z u,D.atKey (k3 x y z) u=match f x y z with | some p=>.lit (.int .i64 (p:Int)) | none=>u)
  (h:w'.ownsMap P k (plainElem P e) b n (D.put (k3 x y z) (.lit (.int .i64 (p:Int))))):ik w' P k e b n (λd o F=>if d=x/\o=y/\F=z then some p else f d o F):=by
 refine⟨_,h,?_,λd o F u=>?_⟩;·obtain⟨L,rfl⟩:=hD;exact⟨_,rfl⟩
 ·show _=match (if d=x/\o=y/\F=z then some p else f d o F)with | some p=>_ | none=>_;by_cases G:d=x/\o=y/\F=z;·obtain⟨rfl,rfl,rfl⟩:=G;rw[af ⟨rfl,rfl,rfl⟩,atKey_put_same hD ((Keyed.of_law A.law).key (vw A I J _ _ _))]
  ·rw[ae G,atKey_put_other (λh=>G (Rx A I J h)),K]
theorem ik.upd{p:Nat}(h:ik w P k e b n f)(A:ArrKey P k q 3)(d:P.underlying q=some (.int .u8))(o:∃m,P.types.size=m+1)(J:P.underlying t=some (.map k e))(K:P.underlying e=some (.int .i64))(L:n<maxLen)(X:p<9223372036854775808)(x y z:UInt8):∃w',(Instr.mapUpdate t (.map (some b)) (v3 x y z) (.int .i64 (p:Int))).run P w=.ok () w'/\ik w' P k e b (n+1) (λF G I=>if F=x/\G=y/\I=z then some p else f F G I)/\ai (λk=>k=b) w w':=by
 obtain⟨D,M,hD,O⟩:=h;have Q:(Lit.int .i64 (p:Int)).wf=true:=by simp only[Lit.wf,fL,en];exact⟨by show(-9223372036854775808:Int)<=_;omega,by show _<=(9223372036854775807:Int);omega⟩
 obtain⟨w',R,U,V⟩:=M.update (Keyed.of_law A.law) J L (vw A d o x y z) (plainElem_int K Q);exact⟨w',R,ik.put A d o hD O U,(nA V).mono (λk _ h=>by simpa using h.symm)⟩
end
