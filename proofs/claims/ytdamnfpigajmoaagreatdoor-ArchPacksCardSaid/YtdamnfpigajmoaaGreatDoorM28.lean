/- Parts of the proof of ArchPacks: Lib12. -/
import Derived.Test.YtdamnfpigajmoaaGreatDoorM17
import Derived.Maps.Own
import Derived.Maps.Views
import Derived.WideKeyPair
set_option linter.unusedVariables false
set_option linter.unusedSectionVars false
set_option linter.unusedSimpArgs false
set_option maxHeartbeats 8000000
namespace Go.Fk
open Go.RowKit
open Go.Maps (Keyed IsMap atKey_put_same atKey_put_other)
open Go.WideMaps (ArrKey)
def k3(a b c:UInt8):Lit:=.string (Go.keyBytes [.int .u8 (a.toNat:Int),.int .u8 (b.toNat:Int),.int .u8 (c.toNat:Int)])
def v3(a b c:UInt8):Value:=.agg #[.int .u8 (a.toNat:Int),.int .u8 (b.toNat:Int),.int .u8 (c.toNat:Int)]
theorem sG(a:UInt8):(Lit.int .u8 (a.toNat:Int)).wf=true:=by
 have:=a.toNat_lt;simp only [Lit.wf,f8,fi];exact⟨by show(0:Int)<=_;omega,by show _<=(255:Int);omega⟩
theorem oV{P:Program}{k e:TypeId}(A:ArrKey P k e 3)(h:P.underlying e=some (.int .u8))(d:∃ m,P.types.size=m+1)(a b c:UInt8):keyOf P k (v3 a b c)=some (k3 a b c):=by
 have o:=A.keyType d;have y:=sG a;have z:=sG b;have wc:=sG c;obtain⟨m,D⟩:=d;unfold keyOf v3;simp only [A.hu];rw [ai (by simp [o,Value.formed,A.hu,A.size]),D];unfold Program.keyLits;simp only [A.hu,Value.cells];rw [ai (by rw [A.size];rfl),show List.range 3=[0,1,2]from rfl,List.mapM_cons,List.mapM_cons,List.mapM_cons,List.mapM_nil];simp [A.one,Program.keyLits,h,y,z,wc,k3]
theorem Ga{P:Program}{k e:TypeId}(A:ArrKey P k e 3)(D:P.underlying e=some (.int .u8))(F:∃ m,P.types.size=m+1){a b c d o y:UInt8}(h:k3 a b c=k3 d o y):a=d/\b=o/\c=y:=by
 have G:=oV A D F a b c;rw [h]at G;have z:=A.law.inj G (oV A D F d o y);simp only [v3,Value.agg.injEq]at z;simp only [Array.mk.injEq,lZ,Value.int.injEq,true_and,iR]at z;obtain⟨I,J,K⟩:=z;exact⟨gq.1 (by omega),gq.1 (by omega),gq.1 (by omega)⟩
def ew(w:World)(P:Program)(k e:TypeId)(b n:Nat)(f:UInt8->UInt8->UInt8->Option Nat):Prop:=
 ∃ D:Go.DataW Unit,w.ownsMap P k (plainElem P e) b n D/\IsMap D/\∀ x y z u,D.atKey (k3 x y z) u=match f x y z with | some p=>.lit (.int .i64 (p:Int)) | none=>u
section
variable {w w':World} {P:Program} {k e t q:TypeId} {b n:Nat} {f:UInt8->UInt8->UInt8->Option Nat}
theorem ew.made(w:World)(P:Program)(k e:TypeId):ew (w.alloc (.map #[] 0)) P k e w.heap.size 0 (fun _ _ _=>none):=
 ⟨_,World.ownsMap_made w P k _,⟨_,rfl⟩,fun _ _ _ _=>rfl⟩
theorem ew.lt(h:ew w P k e b n f):b<w.heap.size:=by obtain⟨D,h,_⟩:=h;exact h.lt
theorem ew.fr(h:ew w P k e b n f)(d:Fr w w'):ew w' P k e b n f:=by
 obtain⟨D,h,m⟩:=h;obtain⟨o,y,z,A⟩:=h;exact⟨D,⟨o,y,d.heap z,A⟩,m⟩
theorem ew.chg{G:Nat->Prop}(h:ew w P k e b n f)(d:ak G w w')(m:¬G b):ew w' P k e b n f:=by
 obtain⟨D,h,o⟩:=h;obtain⟨y,z,A,F⟩:=h;exact⟨D,⟨y,z,d.heap A m,F⟩,o⟩
theorem ew.congr{f':UInt8->UInt8->UInt8->Option Nat}(h:ew w P k e b n f)(d:∀ x y z,f x y z=f' x y z):ew w P k e b n f':=by
 obtain⟨D,h,m,o⟩:=h;exact⟨D,h,m,fun x y z u=>by rw [o,d]⟩
def nC(o:Option Nat):Value:=match o with | some p=>.tuple #[.int .i64 (p:Int),.bool true] | none=>.tuple #[.int .i64 0,.bool false]
theorem ew.look(h:ew w P k e b n f)(A:ArrKey P k q 3)(Q:P.underlying q=some (.int .u8))(R:∃ m,P.types.size=m+1)(T:P.underlying t=some (.map k e))(U:P.underlying e=some (.int .i64))(V:(zeroValue e).run P w=.ok (.int .i64 0) w)(x y z:UInt8) :
  (Instr.lookup t (.map (some b)) (v3 x y z) true).run P w=.ok (nC (f x y z)) w:=by
 obtain⟨D,⟨es,aj,X,F,hs,K⟩,_,J⟩:=h;have Y:=oV A Q R x y z;rcases Maps.fit_look true (Keyed.of_law A.law) T V X F Y with⟨L,_,G⟩ | ⟨e0,r,_,_,L,Z,G,_⟩
 · rw [L]
   cases I:f x y z with
   | none=>rfl
   | some p=>exfalso;have d:=J x y z (.lit (.bool true));have o:=G (.lit (.bool true));rw [<- K]at o;rw [o,I]at d;cases d
 · rw [L];obtain⟨i,hv,hr,_⟩:=plainElem_int_inv U Z
   cases I:f x y z with
   | none=>exfalso;have d:=J x y z (.lit (.bool true));have o:=G (.lit (.bool true));have M:=J x y z (.lit (.bool false));have O:=G (.lit (.bool false));rw [<- K]at o O;rw [o,I]at d;rw [O,I]at M;rw [d]at M;cases M
   | some p=>have d:=J x y z (.lit (.bool true));have o:=G (.lit (.bool true));rw [<- K]at o;rw [o,I,hr]at d;simp only [Go.DataW.lit.injEq,Lit.int.injEq,true_and]at d;rw [hv,d];rfl
theorem ew.put{D:Go.DataW Unit}{p:Nat}{x y z:UInt8}(A:ArrKey P k q 3)(I:P.underlying q=some (.int .u8))(J:∃ m,P.types.size=m+1)(K:IsMap D)(L:∀ x y z u,D.atKey (k3 x y z) u=match f x y z with | some p=>.lit (.int .i64 (p:Int)) | none=>u)
  (h:w'.ownsMap P k (plainElem P e) b n (D.put (k3 x y z) (.lit (.int .i64 (p:Int))))):ew w' P k e b n (fun d o F=>if d=x/\o=y/\F=z then some p else f d o F):=by
 refine⟨_,h,?_,fun d o F u=>?_⟩;· obtain⟨M,rfl⟩:=K;exact⟨_,rfl⟩
 · show _=match (if d=x/\o=y/\F=z then some p else f d o F)with | some p=>_ | none=>_;by_cases G:d=x/\o=y/\F=z;· obtain⟨rfl,rfl,rfl⟩:=G;rw [ai ⟨rfl,rfl,rfl⟩,atKey_put_same K ((Keyed.of_law A.law).key (oV A I J _ _ _))]
   · rw [ah G,atKey_put_other (fun h=>G (Ga A I J h)),L]
theorem ew.upd{p:Nat}(h:ew w P k e b n f)(A:ArrKey P k q 3)(d:P.underlying q=some (.int .u8))(o:∃ m,P.types.size=m+1)(J:P.underlying t=some (.map k e))(K:P.underlying e=some (.int .i64))(L:n<maxLen)(X:p<9223372036854775808)(x y z:UInt8) :
  ∃ w',(Instr.mapUpdate t (.map (some b)) (v3 x y z) (.int .i64 (p:Int))).run P w=.ok () w'/\ew w' P k e b (n+1) (fun F G I=>if F=x/\G=y/\I=z then some p else f F G I)/\ak (fun k=>k=b) w w':=by
 obtain⟨D,M,O,Q⟩:=h;have R:(Lit.int .i64 (p:Int)).wf=true:=by simp only [Lit.wf,f8,fi];exact⟨by show(-9223372036854775808:Int)<=_;omega,by show _<=(9223372036854775807:Int);omega⟩
 obtain⟨w',T,U,V⟩:=M.update (Keyed.of_law A.law) J L (oV A d o x y z) (plainElem_int K R);exact⟨w',T,ew.put A d o O Q U,(lK V).mono (fun k _ h=>by simpa using h.symm)⟩
end
end Go.Fk
