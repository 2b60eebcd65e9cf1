/- Parts of the proof of ArchOne: Lib12. -/
import Derived.Test.YtdagmoonnbnceaaGreatDoorM05
import Derived.Maps.Own
import Derived.Maps.Views
import Derived.WideKeyPair
set_option linter.unusedVariables false
set_option linter.unusedSectionVars false
set_option linter.unusedSimpArgs false
set_option maxHeartbeats 8000000
namespace Go.Fk
open Go.RowKit
open Go.Maps (Keyed IsMap atKey_put_same atKey_put_other)
open Go.WideMaps (ArrKey)
def k3(a b c:UInt8):Lit:=.string (Go.keyBytes [.int .u8 (a.toNat:Int),.int .u8 (b.toNat:Int),.int .u8 (c.toNat:Int)])
def v3(a b c:UInt8):Value:=.agg #[.int .u8 (a.toNat:Int),.int .u8 (b.toNat:Int),.int .u8 (c.toNat:Int)]
theorem u8_wf(a:UInt8):(Lit.int .u8 (a.toNat:Int)).wf=true:=by
 have:=a.toNat_lt
 simp only [Lit.wf,Bool.and_eq_true,decide_eq_true_eq]
 exact⟨by show(0:Int)<=_;omega,by show _<=(255:Int);omega⟩
theorem keyOf_three{P:Program}{k e:TypeId}(A:ArrKey P k e 3)(he:P.underlying e=some (.int .u8))(hsz:∃ m,P.types.size=m+1)(a b c:UInt8):keyOf P k (v3 a b c)=some (k3 a b c):=by
 have hkt:=A.keyType hsz
 have wa:=u8_wf a
 have wb:=u8_wf b
 have wc:=u8_wf c
 obtain⟨m,hm⟩:=hsz
 unfold keyOf v3
 simp only [A.hu]
 rw [if_pos (by simp [hkt,Value.formed,A.hu,A.size]),hm]
 unfold Program.keyLits
 simp only [A.hu,Value.cells]
 rw [if_pos (by rw [A.size];rfl),show List.range 3=[0,1,2]from rfl,List.mapM_cons,List.mapM_cons,List.mapM_cons,List.mapM_nil]
 simp [A.one,Program.keyLits,he,wa,wb,wc,k3]
theorem k3_inj{P:Program}{k e:TypeId}(A:ArrKey P k e 3)(he:P.underlying e=some (.int .u8))(hsz:∃ m,P.types.size=m+1){a b c a' b' c':UInt8}(h:k3 a b c=k3 a' b' c'):a=a'/\b=b'/\c=c':=by
 have h1:=keyOf_three A he hsz a b c
 rw [h]at h1
 have h2:=A.law.inj h1 (keyOf_three A he hsz a' b' c')
 simp only [v3,Value.agg.injEq]at h2
 simp only [Array.mk.injEq,List.cons.injEq,Value.int.injEq,true_and,and_true]at h2
 obtain⟨i1,i2,i3⟩:=h2
 exact⟨UInt8.toNat_inj.1 (by omega),UInt8.toNat_inj.1 (by omega),UInt8.toNat_inj.1 (by omega)⟩
def MapF(w:World)(P:Program)(k e:TypeId)(b n:Nat)(f:UInt8->UInt8->UInt8->Option Nat):Prop:=
 ∃ D:Go.DataW Unit,w.ownsMap P k (plainElem P e) b n D/\IsMap D/\∀ x y z u,D.atKey (k3 x y z) u=match f x y z with | some p=>.lit (.int .i64 (p:Int)) | none=>u
section
variable {w w':World} {P:Program} {k e t q:TypeId} {b n:Nat} {f:UInt8->UInt8->UInt8->Option Nat}
theorem MapF.made(w:World)(P:Program)(k e:TypeId):MapF (w.alloc (.map #[] 0)) P k e w.heap.size 0 (fun _ _ _=>none):=
 ⟨_,World.ownsMap_made w P k _,⟨_,rfl⟩,fun _ _ _ _=>rfl⟩
theorem MapF.lt(h:MapF w P k e b n f):b<w.heap.size:=by obtain⟨D,h,_⟩:=h;exact h.lt
theorem MapF.fr(h:MapF w P k e b n f)(hf:Fr w w'):MapF w' P k e b n f:=by
 obtain⟨D,h,h2⟩:=h
 obtain⟨es,clock,hb,h3⟩:=h
 exact⟨D,⟨es,clock,hf.heap hb,h3⟩,h2⟩
theorem MapF.chg{G:Nat->Prop}(h:MapF w P k e b n f)(hc:Chg G w w')(hg:¬G b):MapF w' P k e b n f:=by
 obtain⟨D,h,h2⟩:=h
 obtain⟨es,clock,hb,h3⟩:=h
 exact⟨D,⟨es,clock,hc.heap hb hg,h3⟩,h2⟩
theorem MapF.congr{f':UInt8->UInt8->UInt8->Option Nat}(h:MapF w P k e b n f)(he:∀ x y z,f x y z=f' x y z):MapF w P k e b n f':=by
 obtain⟨D,h,h1,h2⟩:=h
 exact⟨D,h,h1,fun x y z u=>by rw [h2,he]⟩
def lookV(o:Option Nat):Value:=match o with | some p=>.tuple #[.int .i64 (p:Int),.bool true] | none=>.tuple #[.int .i64 0,.bool false]
theorem MapF.look(h:MapF w P k e b n f)(A:ArrKey P k q 3)(hq:P.underlying q=some (.int .u8))(hsz:∃ m,P.types.size=m+1)(ht:P.underlying t=some (.map k e))(he:P.underlying e=some (.int .i64))(hz:(zeroValue e).run P w=.ok (.int .i64 0) w)(x y z:UInt8) :
  (Instr.lookup t (.map (some b)) (v3 x y z) true).run P w=.ok (lookV (f x y z)) w:=by
 obtain⟨D,⟨es,clock,hb,F,hs,hD⟩,_,h2⟩:=h
 have hk:=keyOf_three A hq hsz x y z
 rcases Maps.fit_look true (Keyed.of_law A.law) ht hz hb F hk with⟨hrun,_,hat⟩ | ⟨e0,r,_,_,hrun,hRv,hat,_⟩
 · rw [hrun]
   cases hf:f x y z with
   | none=>rfl
   | some p=>
    exfalso
    have h3:=h2 x y z (.lit (.bool true))
    have h4:=hat (.lit (.bool true))
    rw [<- hD]at h4
    rw [h4,hf]at h3
    cases h3
 · rw [hrun]
   obtain⟨i,hv,hr,_⟩:=plainElem_int_inv he hRv
   cases hf:f x y z with
   | none=>
    exfalso
    have h3:=h2 x y z (.lit (.bool true))
    have h4:=hat (.lit (.bool true))
    have h5:=h2 x y z (.lit (.bool false))
    have h6:=hat (.lit (.bool false))
    rw [<- hD]at h4 h6
    rw [h4,hf]at h3
    rw [h6,hf]at h5
    rw [h3]at h5
    cases h5
   | some p=>
    have h3:=h2 x y z (.lit (.bool true))
    have h4:=hat (.lit (.bool true))
    rw [<- hD]at h4
    rw [h4,hf,hr]at h3
    simp only [Go.DataW.lit.injEq,Lit.int.injEq,true_and]at h3
    rw [hv,h3]
    rfl
theorem MapF.put{D:Go.DataW Unit}{p:Nat}{x y z:UInt8}(A:ArrKey P k q 3)(hq:P.underlying q=some (.int .u8))(hsz:∃ m,P.types.size=m+1)(hD:IsMap D)(h2:∀ x y z u,D.atKey (k3 x y z) u=match f x y z with | some p=>.lit (.int .i64 (p:Int)) | none=>u)
  (h:w'.ownsMap P k (plainElem P e) b n (D.put (k3 x y z) (.lit (.int .i64 (p:Int))))):MapF w' P k e b n (fun x' y' z'=>if x'=x/\y'=y/\z'=z then some p else f x' y' z'):=by
 refine⟨_,h,?_,fun x' y' z' u=>?_⟩
 · obtain⟨es,rfl⟩:=hD;exact⟨_,rfl⟩
 · show _=match (if x'=x/\y'=y/\z'=z then some p else f x' y' z')with | some p=>_ | none=>_
   by_cases hx:x'=x/\y'=y/\z'=z
   · obtain⟨rfl,rfl,rfl⟩:=hx
     rw [if_pos ⟨rfl,rfl,rfl⟩,atKey_put_same hD ((Keyed.of_law A.law).key (keyOf_three A hq hsz _ _ _))]
   · rw [if_neg hx,atKey_put_other (fun h=>hx (k3_inj A hq hsz h)),h2]
theorem MapF.upd{p:Nat}(h:MapF w P k e b n f)(A:ArrKey P k q 3)(hq:P.underlying q=some (.int .u8))(hsz:∃ m,P.types.size=m+1)(ht:P.underlying t=some (.map k e))(he:P.underlying e=some (.int .i64))(hn:n<maxLen)(hp:p<9223372036854775808)(x y z:UInt8) :
  ∃ w',(Instr.mapUpdate t (.map (some b)) (v3 x y z) (.int .i64 (p:Int))).run P w=.ok () w'/\MapF w' P k e b (n+1) (fun x' y' z'=>if x'=x/\y'=y/\z'=z then some p else f x' y' z')/\Chg (fun k=>k=b) w w':=by
 obtain⟨D,hown,hD,h2⟩:=h
 have hw:(Lit.int .i64 (p:Int)).wf=true:=by
  simp only [Lit.wf,Bool.and_eq_true,decide_eq_true_eq]
  exact⟨by show(-9223372036854775808:Int)<=_;omega,by show _<=(9223372036854775807:Int);omega⟩
 obtain⟨w',hrun,r1,r2⟩:=hown.update (Keyed.of_law A.law) ht hn (keyOf_three A hq hsz x y z) (plainElem_int he hw)
 exact⟨w',hrun,MapF.put A hq hsz hD h2 r1,(grown_chg r2).mono (fun k _ h=>by simpa using h.symm)⟩
end
end Go.Fk
