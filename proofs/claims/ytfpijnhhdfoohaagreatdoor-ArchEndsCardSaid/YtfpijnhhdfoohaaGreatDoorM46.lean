/- Parts of the proof of ArchEnds: Ve. -/
import Derived.Test.YtfpijnhhdfoohaaGreatDoorM39
import Derived.Test.YtfpijnhhdfoohaaGreatDoorM44
import Derived.Test.YtfpijnhhdfoohaaGreatDoorM42
set_option linter.unusedVariables false
set_option linter.unusedSectionVars false
set_option linter.unusedSimpArgs false
set_option maxHeartbeats 8000000
set_option maxRecDepth 100000
namespace Go.Proofs.YtfpijnhhdfoohaaGreatDoor
open Go.RowKit Go.Fk
theorem QX(B D:Value)(a b:List (List UInt8))(w:World)(F:ai w eS B a)(G:ai w eS D b) :
  Calls Tryz.prog 131 #[B,D] w fun e Y=>e=.returned (.bool (decide (a=b)))/\Fr w Y:=by
 obtain⟨aa,ca,Z,bb,ac,_⟩:=F.shape;obtain⟨ab,cb,aj,ak,ap,_⟩:=G.shape;subst Z aj;unfold maxLen at ac ap;generalize I:decide (a=b)=R;have z:=ad I;clear I;go_enter Tryz.func131, Tryz.ntmps131;by_cases q:a.length=b.length
 · have J:=ad q;rw [<- q];clear q ak;go_wp2_with fail;go_loopw [13] (fun A wr=>∃ i:Nat,i<=a.length/\A=N i/\Hid (∀ j,j<i->a[j]?=b[j]?)/\Fr w wr) (fun A _=>a.length - (intOf A).toNat);case atStart=>exact⟨0,an _,rfl,fun j h=>absurd h (rt j),Fr.refl w⟩
   case round=>
    obtain⟨i,hi,rfl,K,d⟩:=hrel;by_cases L:i<a.length
    · have M:i<b.length:=(by have:=J.out;omega);obtain⟨b1,a0,bk,a1,O⟩:=(F.fr d).cell1 (fun s:List UInt8=>S s) rfl i L;obtain⟨b2,a3,bl,a4,Q⟩:=(G.fr d).cell1 (fun s:List UInt8=>S s) rfl i M;have U:Hid (a[i]?=some a[i]):=bE L;have V:Hid (b[i]?=some b[i]):=bE M;generalize a[i]=x at *;generalize b[i]=y at *;have d1:wr.cell? ⟨b1,a0+i,none⟩=some (S x):=O;have d2:wr.cell? ⟨b2,a3+i,none⟩=some (S y):=Q;clear O Q;cases a1;cases a4;have i1:(0:Int)<=i:=(by omega);have i2:(i:Int)<a.length:=(by omega);by_cases m:x=y
      · subst m;go_wp2_with fail;go_quiet (fail);go_wp2_with fail
        all_goals exact ⟨⟨i + 1, by omega, by go_num, fun j hj => by
         by_cases e : j = i;· subst e; rw [U.out, V.out]
         · exact K.out j (by omega), d.drewN _⟩, by simp [intOf]; omega⟩
      · have hn : ¬ (⟨x.toArray⟩ : ByteArray) = ⟨y.toArray⟩ := fun e => m (by
          have h9 := gS (fun b : ByteArray => b.data.toList) e
          simpa using h9)
        have b0:¬x.toArray=y.toArray:=fun e=>m (by simpa using gS Array.toList e);have a7:(x == y)=false:=(by simpa using m);have b3:(x != y)=true:=(by rw [bne,a7];rfl);have o:Hid (R=false):=(by show _=_;rw [<- z.out];refine aX fun e=>m ?_;have X:=U.out;rw [e,V.out]at X;exact(jy X).symm);go_wp2_with fail;go_quiet (fail);go_wp2_with fail;go_ret;exact⟨by rw [o.out];rfl,d.drewN _⟩
    · have o:Hid (R=true):=by
        show _=_;rw [<- z.out];refine bt (qj fun j=>?_);by_cases hj:j<a.length;· exact K.out j (by omega)
        · rw [io (by omega),io (by have:=J.out;omega)]
      obtain rfl:i=a.length:=(by omega);have b4:¬((a.length:Int)<a.length):=(by omega);go_wp2_with fail;go_ret;exact⟨by rw [o.out];rfl,d⟩
 · have o:Hid (R=false):=(by show _=_;rw [<- z.out];exact aX fun e=>q (by rw [e]));rw [o.out];have b5:¬(a.length:Int)=b.length:=(by omega);go_wp2_with fail;go_ret;exact⟨rfl,Fr.refl w⟩
theorem Sg(B D:Value)(a b:List Nat)(w:World)(F:ai w eJ B a)(G:ai w eJ D b) :
  Calls Tryz.prog 133 #[B,D] w fun e Y=>e=.returned (.bool (decide (a=b)))/\Fr w Y:=by
 obtain⟨aa,ca,Z,aC,ac,_⟩:=F.shape;obtain⟨ab,cb,aj,ak,ap,_⟩:=G.shape;subst Z aj;unfold maxLen at ac ap;generalize I:decide (a=b)=R;have z:=ad I;clear I;go_enter Tryz.func133, Tryz.ntmps133;by_cases o:a.length=b.length
 · have J:=ad o;rw [<- o];clear o ak;go_wp2_with fail;go_loopw [13] (fun A wr=>∃ i:Nat,i<=a.length/\A=N i/\Hid (∀ j,j<i->a[j]?=b[j]?)/\Fr w wr) (fun A _=>a.length - (intOf A).toNat);case atStart=>exact⟨0,an _,rfl,fun j h=>absurd h (rt j),Fr.refl w⟩
   case round=>
    obtain⟨i,hi,rfl,K,d⟩:=hrel;by_cases L:i<a.length
    · have M:i<b.length:=(by have:=J.out;omega);obtain⟨b1,a0,bd,a1,O⟩:=(F.fr d).cell1 N rfl i L;obtain⟨b2,a3,bf,a4,Q⟩:=(G.fr d).cell1 N rfl i M;have U:Hid (a[i]?=some a[i]):=bE L;have V:Hid (b[i]?=some b[i]):=bE M;generalize a[i]=x at *;generalize b[i]=y at *;have d1:wr.cell? ⟨b1,a0+i,none⟩=some (N x):=O;have d2:wr.cell? ⟨b2,a3+i,none⟩=some (N y):=Q;clear O Q;cases a1;cases a4;have i1:(0:Int)<=i:=(by omega);have i2:(i:Int)<a.length:=(by omega);by_cases q:x=y
      · subst q;go_wp2_with fail;go_quiet (fail);go_wp2_with fail;go_roundw
        case rel => exact ⟨i + 1, by omega, by go_num, fun j hj => by
         by_cases e : j = i;· subst e; rw [U.out, V.out]
         · exact K.out j (by omega), d.drewN _⟩
        case measure=>simp [intOf];omega
      · have hn:¬(x:Int)=y:=fun e=>q (by omega);have m:Hid (R=false):=(by show _=_;rw [<- z.out];refine aX fun e=>q ?_;have X:=U.out;rw [e,V.out]at X;exact(jy X).symm);clear q;go_wp2_with fail;go_quiet (fail);go_wp2_with fail;go_ret;exact⟨by rw [m.out];rfl,d.drewN _⟩
    · have m:Hid (R=true):=by
        show _=_;rw [<- z.out];refine bt (qj fun j=>?_);by_cases hj:j<a.length;· exact K.out j (by omega)
        · rw [io (by omega),io (by have:=J.out;omega)]
      obtain rfl:i=a.length:=(by omega);have bv:¬((a.length:Int)<a.length):=(by omega);go_wp2_with fail;go_ret;exact⟨by rw [m.out];rfl,d⟩
 · have m:Hid (R=false):=(by show _=_;rw [<- z.out];exact aX fun e=>o (by rw [e]));rw [m.out];have bx:¬(a.length:Int)=b.length:=(by omega);go_wp2_with fail;go_ret;exact⟨rfl,Fr.refl w⟩
theorem Su (X Y : Value) (d m : List Hd) (a b : List (List Nat)) (w : World) (D : dl w pR eJ X d a) (F : dl w oI eJ Y m b) :
    Calls Tryz.prog 132 #[X,Y,.func (.func 133) #[] #[]] w fun e w'=>e=.returned (.bool (decide (a=b)))/\Fr w w':=by
  have Z:=ad D;have HB:=ad F;have I:Hid (d.length=a.length):=D.2.1;have J:Hid (m.length=b.length):=F.2.1;obtain⟨aa,ca,bc,b7,bd,_⟩:=D.1.shape;obtain⟨ab,cb,bf,bk,bl,_⟩:=F.1.shape;subst bc bf;unfold maxLen at bd bl;clear D F;generalize hR:decide (a=b)=R;have K:=ad hR;clear hR;go_enter Tryz.func132, Tryz.ntmps132;by_cases G:d.length=m.length
  · have L:=ad G;rw [<- G];clear G bk;go_wp2_with fail;go_loopw [17] (fun M wr=>∃ i:Nat,i<=d.length/\M=N i/\Hid (∀ j,j<i->a[j]?=b[j]?)/\Fr w wr) (fun M _=>d.length - (intOf M).toNat);case atStart=>exact⟨0,an _,rfl,fun j h=>absurd h (rt j),Fr.refl w⟩
    case round=>
      obtain⟨i,hi,rfl,HE,o⟩:=hrel;by_cases ap:i<d.length
      · have O:i<m.length:=(by have:=L.out;omega);have Q:i<a.length:=(by have:=I.out;omega);have U:i<b.length:=(by have:=J.out;omega);obtain⟨b1,bs,bB,bu,e1⟩:=(Z.out.1.fr o).cell1 (fun h:Hd=>h.v) rfl i ap;obtain⟨b2,bx,bL,a0,e2⟩:=(HB.out.1.fr o).cell1 (fun h:Hd=>h.v) rfl i O;have q:=ad (fun W (h:Fr wr W)=>Sg d[i].v m[i].v a[i] b[i] W (((Z.out.2.2 i ap Q).fr o).fr h) (((HB.out.2.2 i O U).fr o).fr h));have a2:Hid (a[i]?=some a[i]):=bE Q;have a3:Hid (b[i]?=some b[i]):=bE U;have d1:wr.cell? ⟨b1,bs+i,none⟩=some (d[i].v):=e1;have d2:wr.cell? ⟨b2,bx+i,none⟩=some (m[i].v):=e2;obtain⟨pv,a5⟩:∃ pv,pv=d[i].v:=⟨_,rfl⟩;obtain⟨qv,a7⟩:∃ qv,qv=m[i].v:=⟨_,rfl⟩;rw [<- a5]at d1 q;rw [<- a7]at d2 q;rw [<- L.out]at a0;generalize a[i]=x at *;generalize b[i]=y at *;clear e1 e2 a5 a7 O Q U;cases bu;cases a0;have i1:(0:Int)<=i:=(by omega);have i2:(i:Int)<d.length:=(by omega);by_cases z:x=y
        · have A:=ad (q.out wr (Fr.refl wr));rw [bt z]at A;subst z;clear q;go_wp2_with fail;refine(A.out).mono ?_;rintro e w1 ⟨rfl,V⟩;go_wp2_with fail;go_roundw
          case rel => exact ⟨i + 1, by omega, by go_num, fun j hj => by
            by_cases e : j = i;· subst e; rw [a2.out, a3.out]
            · exact HE.out j (by omega), o.trans V⟩
          case measure=>simp [intOf];omega
        · have A:=ad (q.out wr (Fr.refl wr));rw [aX z]at A;have B:Hid (R=false):=(by show _=_;rw [<- K.out];refine aX fun e=>z ?_;have h1:=a2.out;rw [e,a3.out]at h1;exact(jy h1).symm);clear z q;go_wp2_with fail;refine(A.out).mono ?_;rintro e w1 ⟨rfl,V⟩;go_wp2_with fail;go_ret;exact⟨by rw [B.out];rfl,o.trans V⟩
      · have B:Hid (R=true):=by
          show _=_;rw [<- K.out];refine bt (qj fun j=>?_);by_cases hj:j<i;· exact HE.out j hj
          · rw [io (by have:=I.out;omega),io (by have:=L.out;have:=J.out;omega)]
        obtain rfl:i=d.length:=(by omega);have cc:¬((d.length:Int)<d.length):=(by omega);go_wp2_with fail;go_ret;exact⟨by rw [B.out];rfl,o⟩
  · have B:Hid (R=false):=(by show _=_;rw [<- K.out];exact aX fun e=>G (by have:=I.out;have:=J.out;have:=gS List.length e;omega));rw [B.out];have cf:¬(d.length:Int)=m.length:=(by omega);go_wp2_with fail;go_ret;exact⟨rfl,Fr.refl w⟩
theorem RH(G I J K:Value)(ts m:List (List UInt8))(d D:List Hd)(a b:List (List Nat))(w:World)(L:ai w eS G ts)(M:dl w pR eJ I d a)(O:ai w eS J m)(Q:dl w oI eJ K D b) :
  Calls Tryz.prog 90 #[.agg #[G,I],.agg #[J,K]] w fun e w'=>e=.returned (.bool (decide (ts=m) && decide (a=b)))/\Fr w w':=by
 have HS:=ad (fun W (h:Fr w W)=>QX G J ts m W (L.fr h) (O.fr h));have HL:=ad (fun W (h:Fr w W)=>Su I K d D a b W (M.fr h) (Q.fr h));generalize decide (ts=m)=r1 at *;generalize decide (a=b)=r2 at *;obtain⟨o,q,rfl,_⟩:=L.shape;obtain⟨z,A,rfl,_⟩:=M.1.shape;obtain⟨R,U,rfl,_⟩:=O.shape;obtain⟨V,X,rfl,_⟩:=Q.1.shape;clear L M O Q;have ak:Fr w (w.alloc (.cells #[.slice o ts.length q,.slice z d.length A] 110)):=(Fr.refl w).alloc _;have ap:=a9 w (.cells #[.slice o ts.length q,.slice z d.length A] 110) w.heap.size rfl;have Y:Fr (w.alloc (.cells #[.slice o ts.length q,.slice z d.length A] 110)) ((w.alloc (.cells #[.slice o ts.length q,.slice z d.length A] 110)).alloc (.cells #[.slice R m.length U,.slice V D.length X] 110)):=(Fr.refl _).alloc _;have Z:=a9 (w.alloc (.cells #[.slice o ts.length q,.slice z d.length A] 110)) (.cells #[.slice R m.length U,.slice V D.length X] 110) (w.heap.size+1) (by simp);have aa:=Y.heap ap;have F:=ak.trans Y;go_enter Tryz.func90, Tryz.ntmps90;go_upto_region 1 with fail;generalize (w.alloc (.cells #[.slice o ts.length q,.slice z d.length A] 110)).alloc (.cells #[.slice R m.length U,.slice V D.length X] 110)=w2 at *;have a5:w2.cell? ⟨w.heap.size,0,none⟩=some (.slice o ts.length q):=by rw [aA aa];rfl
 have a6:=af Z 0 rfl;have ab:=ad (HS.out w2 F);clear ak Y ap HS
 cases r1 with
 | false=>go_wp2_with fail;refine(ab.out).mono ?_;rintro e w3 ⟨rfl,B⟩;go_wp2_with fail;go_ret;exact⟨rfl,F.trans B⟩
 | true=>go_wp2_with fail;refine(ab.out).mono ?_;rintro e w3 ⟨rfl,B⟩;have a7:=ad (HL.out w3 (F.trans B));have a1:=B.heap aa;have a2:=B.heap Z;have bb:=af a1 1 rfl;have bc:=af a2 1 rfl;clear HL ab a5 a6 aa Z a1 a2;go_wp2_with fail;refine(a7.out).mono ?_;rintro e w4 ⟨rfl,aC⟩;go_wp2_with fail;go_ret;exact⟨rfl,(F.trans B).trans aC⟩
end Go.Proofs.YtfpijnhhdfoohaaGreatDoor
