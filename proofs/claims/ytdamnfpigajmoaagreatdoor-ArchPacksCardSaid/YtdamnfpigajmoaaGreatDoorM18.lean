/- Parts of the proof of ArchPacks: Q1 Q2 E2 E3 E4 L3 L4 Q3 Q4. -/
import Derived.Test.YtdamnfpigajmoaaGreatDoorM14
import Derived.Test.YtdamnfpigajmoaaGreatDoorM01
import Derived.Test.YtdamnfpigajmoaaGreatDoorM11
import Derived.Test.YtdamnfpigajmoaaGreatDoorM17
import Derived.Test.YtdamnfpigajmoaaGreatDoorM10
import Derived.Test.YtdamnfpigajmoaaGreatDoorM31
import Derived.Test.YtdamnfpigajmoaaGreatDoorM12
set_option linter.unusedVariables false
set_option linter.unusedSectionVars false
set_option linter.unusedSimpArgs false
set_option maxHeartbeats 8000000
set_option maxRecDepth 100000
namespace Go.Fk
abbrev fY:=@UInt64.toNat_lt
abbrev pK:=@UInt64.toNat_ofNat'
end Go.Fk
namespace Go.Proofs.YtdamnfpigajmoaaGreatDoor
open Go.RowKit Go.Fk
def bD(r:am):Nat:=16+r.source.length+r.text.length
def dq(r:am):Bool:=decide (4000<r.source.length) || decide (4000<r.text.length)
def cV(l:List am):Bool:=decide (l.length<=20000) && (l.all fun r=>!dq r) && decide (aQ bD l<=1048576)
abbrev jA(r:am):Value:=.agg #[.int .u64 r.time.toNat,Fk.u8 r.level,S r.source,S r.text]
theorem FI(r:am)(w:World):Calls Tryz.prog 53 #[jA r] w fun e w'=>e=.returned (.bool (dq r))/\Fr w w':=by
 have h:Hid (dq r=(decide (4000<r.source.length) || decide (4000<r.text.length))):=rfl;by_cases m:4000<r.source.length;· have q:(4000:Int)<r.source.length:=(by omega);have d:Hid (dq r=true):=(by show _=_;rw [h.out,bs m];rfl);go_enter Tryz.func53, Tryz.ntmps53;go_wp2_with fail;go_ret;exact⟨by rw [d.out];rfl,(Fr.refl w).alloc _⟩
 · have q:¬(4000:Int)<r.source.length:=(by omega);by_cases o:4000<r.text.length;· have y:(4000:Int)<r.text.length:=(by omega);have d:Hid (dq r=true):=(by show _=_;rw [h.out,bs o];simp);go_enter Tryz.func53, Tryz.ntmps53;go_wp2_with fail;go_ret;exact⟨by rw [d.out];rfl,(Fr.refl w).alloc _⟩
   · have y:¬(4000:Int)<r.text.length:=(by omega);have d:Hid (dq r=false):=(by show _=_;rw [h.out,bi m,bi o];rfl);go_enter Tryz.func53, Tryz.ntmps53;go_wp2_with fail;go_ret;exact⟨by rw [d.out];rfl,(Fr.refl w).alloc _⟩
theorem KC(v:Value)(l:List am)(w:World)(y:af w eR v l)(L:l.length<=20000)(d:∀ r∈l,bD r<=8016) :
  Calls Tryz.prog 54 #[v] w fun e w'=>e=.returned (N (aQ bD l))/\Fr w w':=by
 obtain⟨a,M,rfl,O,Q,R⟩:=y.shape;have z:=ad (fun k=>kk bD 8016 (l.take k) (fun x A=>d x (eD A)));have D:=ad d;clear d;go_enter Tryz.func54, Tryz.ntmps54;go_wp2_with fail;go_loopw [3,8] (fun F h wr=>∃ k:Nat,k<=l.length/\h=N k/\F=N (aQ bD (l.take k))/\Fr w wr) (fun _ h _=>l.length - (intOf h).toNat);case atStart=>exact⟨0,ap _,rfl,rfl,Fr.refl w⟩
 case round=>
  obtain⟨k,G,rfl,rfl,m⟩:=hrel;have o:=z.out k;rw [aV,gr G]at o;have T:aQ bD (l.take k)<=20000*8016:=aq o (b7 (by omega) (ag _));clear o;by_cases q:k<l.length;· obtain⟨b,U,V,I,X,Y,c2,Z⟩:=gh (y.fr m) k q;have J:=ad (so bD l k q);have K:bD l[k]<=8016:=D.out _ (aH q);generalize aQ bD (l.take k)=aa at *;generalize l[k]=r at *;cases I;unfold bD at K;have i1:(0:Int)<=k:=(by omega);have i2:(k:Int)<l.length:=(by omega);go_wp2_with fail;exact⟨⟨k+1,by omega,by go_num,by rw [J.out];unfold bD;go_num,m.alloc _⟩,by simp [intOf];omega⟩
  · obtain rfl:k=l.length:=(by omega);have aj:¬((l.length:Int)<l.length):=(by omega);rw [cu]at *;go_wp2_with fail;go_ret;exact⟨rfl,m⟩
theorem Gn(v:Value)(l:List am)(w:World)(G:af w eR v l) :
  Calls Tryz.prog 97 #[v,.func (.func 53) #[] #[]] w fun e w'=>∃ x:Int,e=.returned (.int .i64 x)/\Hid (decide (0<=x)=l.any dq)/\Fr w w':=by
 obtain⟨a,O,rfl,Q,I,R⟩:=G.shape;unfold maxLen at I;have J:=ad FI;go_enter Tryz.func97, Tryz.ntmps97;go_wp2_with fail;go_loopw [8] (fun q wr=>∃ k:Nat,k<=l.length/\q=N k/\Hid ((l.take k).any dq=false)/\Fr w wr) (fun q _=>l.length - (intOf q).toNat);case atStart=>exact⟨0,ap _,rfl,rfl,Fr.refl w⟩
 case round=>
  obtain⟨k,T,rfl,y,m⟩:=hrel;by_cases z:k<l.length
  · obtain⟨b,U,V,K,X,Y,c2,Z⟩:=gh (G.fr m) k z;have A:Hid ((l.take (k+1)).any dq=dq l[k]):=(by show _=_;rw [cL z,List.any_append,y.out];simp);have D:Hid (dq l[k]=true->l.any dq=true):=fun h=>List.any_eq_true.2 ⟨_,aH z,h⟩;generalize l[k]=r at *;cases K;have o:=ad (J.out r);have i1:(0:Int)<=k:=(by omega);have i2:(k:Int)<l.length:=(by omega);cases d:dq r;· rw [d]at o A D;clear d;go_wp2_with fail;refine(o.out _).mono ?_;rintro e L ⟨rfl,F⟩;go_wp2_with fail;exact⟨⟨k+1,by omega,by go_num,A.out,m.trans F⟩,by simp [intOf];omega⟩
    · have M:=ad (D.out d);rw [d]at o A;clear d D;go_wp2_with fail;refine(o.out _).mono ?_;rintro e L ⟨rfl,F⟩;go_wp2_with fail;go_ret;exact⟨_,rfl,by show _=_;rw [M.out];simp,m.trans F⟩
  · obtain rfl:k=l.length:=(by omega);have ac:¬((l.length:Int)<l.length):=(by omega);rw [cu]at y;go_wp2_with fail;go_ret;exact⟨_,rfl,by show _=_;rw [y.out];rfl,m⟩
theorem G2(v:Value)(l:List am)(w:World)(d:af w eR v l) :
  Calls Tryz.prog 52 #[v,.func (.func 53) #[] #[]] w fun e w'=>e=.returned (.bool (l.any dq))/\Fr w w':=by
 obtain⟨a,y,h,z,A,D⟩:=d.shape;have m:=ad (Gn v l w d);subst h;go_enter Tryz.func52, Tryz.ntmps52;go_wp2_with fail;refine m.out.mono ?_;rintro e F ⟨x,rfl,o,q⟩;go_wp2_with fail;go_ret;exact⟨by rw [<- o.out];rfl,q⟩
theorem pH(v:Value)(l:List am)(w:World)(q:af w eR v l) :
  Calls Tryz.prog 27 #[v] w fun e w'=>e=.returned (.int .i64 (if cV l then 0 else 6))/\Fr w w':=by
 obtain⟨a,aa,O,ab,Q,ac⟩:=q.shape;have z:=ad (fun W h=>G2 v l W h);have G:=ad (fun W h=>KC v l W h);have d:Hid ((if cV l then(0:Int)else 6)=if(decide (l.length<=20000) && (l.all fun r=>!dq r) && decide (aQ bD l<=1048576))=true then 0 else 6):=rfl;have A:Hid ((l.all fun r=>!dq r) = !(l.any dq)):=by show _=_;rw [List.not_any_eq_all_not]
 generalize (if cV l then(0:Int)else 6)=R at *;rw [A.out]at d;subst O;unfold maxLen at Q;by_cases D:l.length<=20000
 · have T:¬(20000:Int)<l.length:=(by omega);rw [bs D]at d;cases y:l.any dq
   · have I:∀ r∈l,bD r<=8016:=by
       intro r U;have J:dq r=false:=by
        cases V:dq r;· rfl
        · rw [List.any_eq_true.2 ⟨r,U,V⟩]at y;cases y
       unfold dq at J;simp only [Bool.or_eq_false_iff,pI]at J;unfold bD;omega
     rw [y]at d z;have K:=ad (fun W h=>G.out W h D I);clear A G I y;by_cases L:aQ bD l<=1048576;· rw [bs L]at d;have X:¬(1048576:Int)<aQ bD l:=(by omega);have m:Hid (R=0):=(by show _=_;rw [d.out];rfl);generalize aQ bD l=Y at *;go_enter Tryz.func27, Tryz.ntmps27;go_wp2_with fail;refine(z.out _ q).mono ?_;rintro e M ⟨rfl,o⟩;go_wp2_with fail;refine(K.out _ (q.fr o)).mono ?_;rintro e Z ⟨rfl,F⟩;go_wp2_with fail;go_ret;exact⟨by rw [m.out];rfl,o.trans F⟩
     · rw [bi L]at d;have X:(1048576:Int)<aQ bD l:=(by omega);have m:Hid (R=6):=(by show _=_;rw [d.out];rfl);generalize aQ bD l=Y at *;go_enter Tryz.func27, Tryz.ntmps27;go_wp2_with fail;refine(z.out _ q).mono ?_;rintro e M ⟨rfl,o⟩;go_wp2_with fail;refine(K.out _ (q.fr o)).mono ?_;rintro e Z ⟨rfl,F⟩;go_wp2_with fail;go_ret;exact⟨by rw [m.out];rfl,o.trans F⟩
   · rw [y]at d z;have m:Hid (R=6):=(by show _=_;rw [d.out];rfl);clear A y;go_enter Tryz.func27, Tryz.ntmps27;go_wp2_with fail;refine(z.out _ q).mono ?_;rintro e M ⟨rfl,o⟩;go_wp2_with fail;go_ret;exact⟨by rw [m.out];rfl,o⟩
 · have T:(20000:Int)<l.length:=(by omega);rw [bi D]at d;have m:Hid (R=6):=(by show _=_;rw [d.out];rfl);go_enter Tryz.func27, Tryz.ntmps27;go_wp2_with fail;go_ret;exact⟨by rw [m.out];rfl,Fr.refl w⟩
theorem mF(v:Value)(l:List am)(w:World)(K:af w eR v l) :
  Calls Tryz.prog 5 #[v] w fun e w'=>e=.returned (.int .i64 (if cV l then 0 else 6))/\Fr w w':=by
 obtain⟨a,aj,F,av,X,a0⟩:=K.shape;have m:Hid ((if cV l then(0:Int)else 6)=if(decide (l.length<=20000) && (l.all fun r=>!dq r) && decide (aQ bD l<=1048576))=true then 0 else 6):=rfl;generalize (if cV l then(0:Int)else 6)=R at *;subst F;unfold maxLen at X;by_cases L:l.length<=20000
 · have Y:¬(20000:Int)<l.length:=(by omega);rw [bs L]at m;go_enter Tryz.func5, Tryz.ntmps5;go_wp2_with fail;go_loopw [3,4] (fun Z G wr=>∃ k:Nat,k<=l.length/\G=N k/\Z=N (aQ bD (l.take k))/\Hid (∀ r∈l.take k,dq r=false)/\aQ bD (l.take k)<=k*8016/\Fr w wr) (fun _ G _=>l.length - (intOf G).toNat);case atStart=>exact⟨0,ap _,rfl,rfl,fun r d=>(by cases d),ap _,Fr.refl w⟩
   case round=>
    obtain⟨k,hk,rfl,rfl,M,a2,q⟩:=hrel;by_cases D:k<l.length
    · obtain⟨b,a3,a4,F,c0,c1,c2,c3⟩:=gh (K.fr q) k D;have O:=ad (so bD l k D);have Q:Hid (dq l[k]=false->∀ r∈l.take (k+1),dq r=false):=by
       intro h r d;rw [cL D]at d;rcases ju.1 d with d | d;· exact M.out r d
       · rw [lu]at d;rw [d];exact h
      have z:Hid (dq l[k]=true->R=6):=(by intro h;rw [m.out,ah];have:(l.all fun r=>!dq r)=false:=(by rw [List.all_eq_false];exact⟨_,aH D,by rw [h];simp⟩);rw [this];simp);have I:Hid (dq l[k]=(decide (4000<l[k].source.length) || decide (4000<l[k].text.length))):=rfl;have T:Hid (bD l[k]=16+l[k].source.length+l[k].text.length):=rfl;generalize aQ bD (l.take k)=y at *;generalize l[k]=r at *;cases F;have i1:(0:Int)<=k:=(by omega);have i2:(k:Int)<l.length:=(by omega);by_cases U:4000<r.source.length;· have aa:(4000:Int)<r.source.length:=(by omega);have o:Hid (R=6):=z.out (by rw [I.out,bs U];rfl);clear z;go_wp2_with fail;go_ret;exact⟨by rw [o.out];rfl,q⟩
      · have aa:¬(4000:Int)<r.source.length:=(by omega);by_cases A:4000<r.text.length;· have J:(4000:Int)<r.text.length:=(by omega);have o:Hid (R=6):=z.out (by rw [I.out,bs A];simp);clear z;go_wp2_with fail;go_ret;exact⟨by rw [o.out];rfl,q⟩
        · have J:¬(4000:Int)<r.text.length:=(by omega);have ab:=ad (Q.out (by rw [I.out,bi U,bi A];rfl));clear Q z;have bc:IntKind.i64.wrap ((y:Int)+16)=(y:Int)+16:=ar _ (by omega);have bd:IntKind.i64.wrap ((y:Int)+16+r.source.length)=(y:Int)+16+r.source.length:=ar _ (by omega);have bf:IntKind.i64.wrap ((y:Int)+16+r.source.length+r.text.length)=(y:Int)+16+r.source.length+r.text.length:=ar _ (by omega);go_upto_region 9 with fail;go_quiet (fail);go_wp2_with fail;go_roundw;case rel=>exact⟨k+1,by omega,by go_num,by rw [O.out,T.out];go_num,ab,by rw [O.out,T.out];omega,q.drewN _⟩
          case measure=>simp [intOf];omega
    · obtain rfl:k=l.length:=(by omega);have bk:¬((l.length:Int)<l.length):=(by omega);rw [cu]at *;have V:(l.all fun r=>!dq r)=true:=(by rw [rZ];intro r d;rw [M.out r d];rfl);rw [V]at m;clear V;by_cases A:aQ bD l<=1048576;· rw [bs A]at m;have J:¬(1048576:Int)<aQ bD l:=(by omega);have o:Hid (R=0):=(by show _=_;rw [m.out];rfl);generalize aQ bD l=wt at *;go_wp2_with fail;go_ret;exact⟨by rw [o.out];rfl,q⟩
      · rw [bi A]at m;have J:(1048576:Int)<aQ bD l:=(by omega);have o:Hid (R=6):=(by show _=_;rw [m.out];rfl);generalize aQ bD l=wt at *;go_wp2_with fail;go_ret;exact⟨by rw [o.out];rfl,q⟩
 · have Y:(20000:Int)<l.length:=(by omega);rw [bi L]at m;have o:Hid (R=6):=(by show _=_;rw [m.out];rfl);go_enter Tryz.func5, Tryz.ntmps5;go_wp2_with fail;go_ret;exact⟨by rw [o.out];rfl,Fr.refl w⟩
def ff(d:Bool)(r:am):List UInt8:=(if d then ao r.time.toNat++[r.level]else [])++(cZ r.source++cZ r.text)
theorem iV(s:List UInt8)(h:s.length<18446744073709551616):(cZ s).length<=s.length+10:=by
 unfold cZ;have:=aG s.length h;rw [an];omega
theorem tN(b:Bool)(r:am)(d:r.source.length<=100000)(e:r.text.length<=100000):(ff b r).length<=r.source.length+r.text.length+31:=by
 have h:=iV r.source (by omega);have m:=iV r.text (by omega);have o:=aG r.time.toNat (fY _);unfold ff;cases b;· simp only [an];simp;omega
 · simp only [an,if_true];simp;omega
theorem D3(w:World)(d e h:Hd)(p0 p1 p2:List UInt8)(o:af w eB d.v p0)(q:af w eB e.v p1)(y:af w eB h.v p2) :
  bY (w.alloc (.cells #[d.v,e.v,h.v] 29)) aP eB (.slice (some ⟨w.heap.size,0,none⟩) 3 3) [d,e,h] [p0,p1,p2]:=by
 refine⟨iY aP w [d,e,h] _ _ 3 rfl rfl (by simp [maxLen]),rfl,fun i a b=>?_⟩;have m:=(Fr.refl w).alloc (.cells #[d.v,e.v,h.v] 29);have:i=0\/i=1\/i=2:=by simp at a;omega
 rcases this with rfl | rfl | rfl;· exact o.fr m
 · exact q.fr m
 · exact y.fr m
theorem oG{w:World}{v:Value}{p:List UInt8}(h:af w eB v p):∃ x:Hd,v=x.v:=by
 obtain⟨a,c,d,_⟩:=h.shape;exact⟨⟨a,p.length,c⟩,d⟩
theorem uP(W:World)(d h m:Value)(p0 p1 p2:List UInt8)(o:af W eB d p0)(q:af W eB h p1)(y:af W eB m p2)(J:p0.length+p1.length+p2.length<=1000000) :
  Calls Tryz.prog 30 #[.slice (some ⟨W.heap.size,0,none⟩) 3 3] (W.alloc (.cells #[d,h,m] 29)) fun e w'=>∃ v,e=.returned v/\Ow w' W.heap.size eB v (p0++(p1++p2))/\Fr W w':=by
 obtain⟨z,rfl⟩:=oG o;obtain⟨A,rfl⟩:=oG q;obtain⟨D,rfl⟩:=oG y;refine(lm _ _ _ _ (D3 W z A D p0 p1 p2 o q y) (by simp;omega)).mono ?_;rintro e w' ⟨v,F,G,I⟩;exact⟨v,F,by simpa using G.rebase (by simp),((Fr.refl W).alloc _).trans I⟩
theorem y6 (r : am) (w : World) (hs : r.source.length ≤ 100000) (ht : r.text.length ≤ 100000) :
    Calls Tryz.prog 55 #[.bool false,jA r] w fun e w'=>∃ v,e=.returned v/\Ow w' w.heap.size eB v (ff false r)/\Fr w w':=by
  have A:=ad (fun s (h:s.length<=1000000000) W=>uX s h W);have H1:=iV r.source (by omega);have H2:=iV r.text (by omega);have K:Hid (ff false r=cZ r.source++cZ r.text):=rfl;go_enter Tryz.func55, Tryz.ntmps55;go_upto_region 4 with fail;generalize o:w.alloc (.cells #[.int .u64 r.time.toNat,Fk.u8 r.level,S r.source,S r.text] 37)=W;have D:Fr w W:=(by rw [<- o];exact(Fr.refl w).alloc _);have L:W.cell? ⟨w.heap.size,2,none⟩=some (S r.source)/\W.cell? ⟨w.heap.size,3,none⟩=some (S r.text):=(by rw [<- o];refine⟨?_,?_⟩ <;> rw [vG _ _ _ _ rfl] <;> rfl);obtain⟨M,O⟩:=L;have F:=ad D;clear o D;have G:=ad (fun W q y (Q:af W eB q (cZ r.source)) (R:af W eB y (cZ r.text))=>uP W _ q y [] _ _ af.nil Q R (by simp;omega));rw [gI,<- K.out]at G
  go_region_held3 (fun w' => w'.cell? ⟨w.heap.size, 2, none⟩ = some (S r.source) ∧ w'.cell? ⟨w.heap.size, 3, none⟩ = some (S r.text))
    (first | go_keep)
    ((first
      | (go_at_call_of 98 (S r.source); refine (A.out r.source (by omega) _).mono ?_; rintro e w1 ⟨q, rfl, I, m⟩; obtain ⟨q1, z1, T⟩ := I.shape'; subst T; have U := m.cell M; have V := m.cell O)
      | (go_at_call_of 98 (S r.text); refine (A.out r.text (by omega) _).mono ?_; rintro e w2 ⟨y, rfl, J, d⟩; obtain ⟨q2, z2, X⟩ := J.shape'; subst X; have Y := d.cell U; have Z := d.cell V)
      | (go_at_call 30; refine (G.out _ _ _ (I.see.fr d) J.see).mono ?_; rintro e w3 ⟨v3, rfl, aa, z⟩; have x2 := z.cell Y; have x3 := z.cell Z)))
  go_wp2_with fail;go_ret;exact⟨_,rfl,aa.rebase (by have:=((((F.out.trans (Fr.drew (Fr.refl W))).trans m).trans d)).size;omega),(((F.out.trans (Fr.drew (Fr.refl W))).trans m).trans d).trans z⟩
theorem ve(b:Bool)(r:am)(w:World)(hs:r.source.length<=100000)(ht:r.text.length<=100000) :
  Calls Tryz.prog 118 #[.bool b,jA r] w fun e w'=>∃ v,e=.returned v/\Ow w' w.heap.size eB v (ff b r)/\Fr w w':=by
 have O:=ad (fun s (h:s.length<=1000000000) W=>AO s h W);have a6:=ad (jI r.time.toNat (fY _));have H1:=iV r.source (by omega);have H2:=iV r.text (by omega);have H3:=aG r.time.toNat (fY _);have Q:=au w (.cells #[.int .u64 r.time.toNat,Fk.u8 r.level,S r.source,S r.text] 37) _ rfl;have R:=(Fr.refl w).alloc (.cells #[.int .u64 r.time.toNat,Fk.u8 r.level,S r.source,S r.text] 37);have T:w.heap.size+1<=(w.alloc (.cells #[.int .u64 r.time.toNat,Fk.u8 r.level,S r.source,S r.text] 37)).heap.size:=by simp
 have o:w.heap.size<=w.heap.size+1:=Nat.le_succ _;cases b;· have X:Hid (ff false r=[]++cZ r.source++cZ r.text):=rfl;go_enter Tryz.func118, Tryz.ntmps118;go_wp2_with fail;refine(O.out r.source (by omega) _).mono ?_;rintro e Y ⟨v1,rfl,Z,d⟩;have A:=d.heap Q;have q:Ow Y (w.heap.size+1) eB (.slice none 0 0) ([]:List UInt8):=Ow.nil;go_wp2_with (at_builtin;refine aN eB rfl (.tmp 17) (.tmp 20) 29 rfl Tryz.underlying29 (w.heap.size+1) rfl q _ _ rfl Z.see (by(try simp);omega) (aq T d.size) ?_);intro v2 D m;have F:Fr w D:=m.below q (R.trans d) o (R.trans d).size;have G:=m.chg'.heap A (fun e=>by cases e);have e3:=ae G 3 rfl;have y:=m.own;have U:w.heap.size+1<=D.heap.size:=aq (aq T d.size) m.size;clear m q A Q;go_wp2_with fail;refine(O.out r.text (by omega) _).mono ?_;rintro e w3 ⟨v3,rfl,bb,I⟩;go_wp2_with (at_builtin;refine aN eB rfl (.tmp 22) (.tmp 25) 29 rfl Tryz.underlying29 (w.heap.size+1) rfl (y.fr I) _ _ rfl bb.see (by(try simp);omega) (aq U I.size) ?_);intro v4 w4 J;go_wp2_with fail;go_ret;exact⟨_,rfl,by rw [X.out];simpa using J.own.rebase o,J.below (y.fr I) (F.trans I) o (F.trans I).size⟩
 · have X:Hid (ff true r=[]++ao r.time.toNat++[r.level]++cZ r.source++cZ r.text):=(by show _=_;simp [ff]);go_enter Tryz.func118, Tryz.ntmps118;go_wp2_with fail;refine(a6.out _).mono ?_;rintro e Y ⟨v1,rfl,Z,d⟩;have A:=d.heap Q;have q:Ow Y (w.heap.size+1) eB (.slice none 0 0) ([]:List UInt8):=Ow.nil;go_wp2_with (at_builtin;refine aN eB rfl (.tmp 7) (.tmp 10) 29 rfl Tryz.underlying29 (w.heap.size+1) rfl q _ _ rfl Z.see (by(try simp);omega) (aq T d.size) ?_);intro v2 D m;have F:Fr w D:=m.below q (R.trans d) o (R.trans d).size;have G:=m.chg'.heap A (fun e=>by cases e);have e3:=ae G 1 rfl;have y:=m.own;have U:w.heap.size+1<=D.heap.size:=aq (aq T d.size) m.size;clear m q A Q;go_wp2_with (at_builtin;refine aM eB rfl (.tmp 12) (.tmp 15) 29 rfl Tryz.underlying29 (w.heap.size+1) rfl y [r.level] _ _ _ rfl rfl rfl (by simp;omega) U ?_);intro v5 w5 K;have aj:Fr w w5:=K.below y F o F.size;have aa:=K.chg'.heap G (fun e=>by have:=(y.lt _ e).1;omega);have e5:=ae aa 2 rfl;have av:=K.own;have a0:w.heap.size+1<=w5.heap.size:=aq U K.size;clear K y e3 G;go_wp2_with fail;refine(O.out r.source (by omega) _).mono ?_;rintro e w6 ⟨v6,rfl,bf,z⟩;have a1:=z.heap aa;have V:=av.fr z;go_wp2_with (at_builtin;refine aN eB rfl (.tmp 17) (.tmp 20) 29 rfl Tryz.underlying29 (w.heap.size+1) rfl V _ _ rfl bf.see (by(try simp);omega) (aq a0 z.size) ?_);intro v7 w7 L;have a3:Fr w w7:=L.below V (aj.trans z) o (aj.trans z).size;have a4:=L.chg'.heap a1 (fun e=>by have:=(V.lt _ e).1;omega);have e7:=ae a4 3 rfl;have a5:=L.own;have bk:w.heap.size+1<=w7.heap.size:=aq (aq a0 z.size) L.size;clear L V av a1 aa a4 e5;go_wp2_with fail;refine(O.out r.text (by omega) _).mono ?_;rintro e w8 ⟨v8,rfl,bm,M⟩;go_wp2_with (at_builtin;refine aN eB rfl (.tmp 22) (.tmp 25) 29 rfl Tryz.underlying29 (w.heap.size+1) rfl (a5.fr M) _ _ rfl bm.see (by(try simp);omega) (aq bk M.size) ?_);intro v4 w4 J;go_wp2_with fail;go_ret;exact⟨_,rfl,by rw [X.out];simpa using J.own.rebase o,J.below (a5.fr M) (a3.trans M) o (a3.trans M).size⟩
theorem Jo(q:Nat)(m:1<=q)(G:q<=20000)(w:World) :
  Calls Tryz.prog 185 #[N q] w fun e w'=>e=.returned (.tuple #[N (Nat.log2 q),N (2 ^ Nat.log2 q)])/\w=w':=by
 go_enter Tryz.func185, Tryz.ntmps185;go_wp2_with fail;go_loopw [4,5] (fun o h wr=>∃ k p:Nat,o=N k/\h=N p/\p<=q/\k<=20000/\Hid (p=2 ^ k)/\k<p/\w=wr) (fun _ h _=>q - (intOf h).toNat);case atStart=>exact⟨0,1,rfl,rfl,m,by omega,by first | rfl | trivial,by omega,by first | rfl | trivial⟩
 case round=>
  obtain⟨k,p,rfl,rfl,y,I,d,J,rfl⟩:=hrel;by_cases z:2*p<=q;· have A:(2:Int)*p<=q:=(by omega);have D:Hid (2*p=2 ^ (k+1)):=(by show _=_;rw [d.out,eA];omega);go_wp2_with fail;exact⟨⟨k+1,2*p,by go_num,by go_num,z,by omega,D.out,by omega,by first | rfl | trivial⟩,by simp [intOf];omega⟩
  · have A:decide ((2:Int)*p<=q)=false:=(by simp;omega);have K:decide (2*p<=q)=false:=(by simp;omega);have F:Hid (Nat.log2 q=k):=yO q k (by rw [<- d.out];exact y) (by rw [eA,<- d.out];omega);go_wp2_with fail;go_ret2;rw [F.out,<- d.out];exact⟨rfl,rfl⟩
theorem o0{g:Nat}{d:Value}{w w':World}(h:aA g (.slice none 0 0) d w w')(m:w.heap.size<=g):Fr w w':=
 h.1.fr fun k o e=>by
  rcases e with e | e
  · omega
  · simp [Value.ownBlock]at e
theorem Kv(z:Nat)(hb:z<=20000)(v:Value)(l:List Nat)(w:World)(M:af w eJ v l)(O:bQ z 0 l=true) :
  Calls Tryz.prog 124 #[N z,v] w fun e w'=>∃ v,e=.returned (.tuple #[v,.int .i64 0])/\Ow w' w.heap.size eB v (fF z l)/\Fr w w':=by
 obtain⟨a,a5,rfl,dr,b8,ds⟩:=M.shape;unfold maxLen at b8;have dv:=qK z l 0 (ap _) O;have HM:=ad (Ba z _ l w M);rw [O]at HM;have HN:=ad (fun W=>jI l.length (by omega) W);have d1:=aG l.length (by omega);have HX:=ad (xY z l 0 O);have U:Hid (fF z l=ao l.length++if l=[]then []else bM (eM (Nat.log2 (z / l.length)) l++fG (Nat.log2 (z / l.length)) 0 l)):=rfl;generalize ao l.length=nb at *;have ca:=ad O;clear O;have b0:¬(z:Int)<0:=by omega
 have b1:¬(20000:Int)<z:=by omega
 go_enter Tryz.func124, Tryz.ntmps124;go_wp2_with fail;refine HM.out.mono ?_;rintro e w1 ⟨rfl,aa⟩;go_wp2_with fail;refine(HN.out _).mono ?_;rintro e o ⟨v2,rfl,a7,cb⟩;have Q:=aa.trans cb;by_cases h0:l=[];· subst h0;go_wp2_with fail;go_ret2;exact⟨_,rfl,by rw [U.out];simpa using a7.rebase aa.size,Q⟩
 · have cc:0<l.length:=oq.2 h0;have d6:((l.length:Int) == 0)=false:=(by simp;omega);have cf:1<=z / l.length:=Nat.div_pos (by omega) cc;have ch:z / l.length<=20000:=aq (jO _ _) hb;have d7:(z:Int) / l.length=((z / l.length:Nat):Int):=(Int.natCast_ediv _ _).symm;rw [ah h0]at U;generalize hQ:z / l.length=q at *;have HW:=ad (fun W=>Jo q cf ch W);have cl:2 ^ Nat.log2 q<=q:=Nat.log2_self_le (by omega);have cm:Nat.log2 q<2 ^ Nat.log2 q:=Nat.lt_two_pow_self;generalize Nat.log2 q=n at *;have HP:Hid (2 ^ n=2 ^ n):=rfl;generalize hp:2 ^ n=p at cl cm HW;have V:=ad hp;clear hp hQ HP;go_wp2_with fail;refine(HW.out _).mono ?_;rintro e w3 ⟨rfl,rfl⟩;go_wp2_with fail;have co:l.length<=20000:=(by omega);have bc:n<=64:=(by have:n<15:=(by refine Nat.lt_of_not_le fun h=>?_;have:=eC (show 0<2 by omega) h;rw [V.out]at this;omega);omega);have HT:=ad (fun k=>un n (l.take k));have ac:Hid (∀ k,(eM n (l.take k)).length<=1280000):=fun k=>(by rw [HT.out k,aV];exact aq (b7 (aq (Nat.min_le_right _ _) co) bc) (by omega));have hA:Fr o (o.alloc (.cells #[Value.slice none 0 0] 246)):=(Fr.refl o).alloc _;have hB:(o.alloc (.cells #[Value.slice none 0 0] 246)).heap[o.heap.size]? = some (.cells #[Value.slice none 0 0] 246 (0,0)):=au _ _ _ rfl;have d9:(o.alloc (.cells #[Value.slice none 0 0] 246)).heap.size=o.heap.size+1:=(by simp);generalize o.alloc (.cells #[Value.slice none 0 0] 246)=W0 at *;go_loopw [10] (fun I wr=>∃ (k:Nat) (D:Value),k<=l.length/\I=N k/\cP wr (o.heap.size+1) o.heap.size 246 D (eM n (l.take k))/\aA o.heap.size (.slice none 0 0) D W0 wr) (fun I _=>l.length - (intOf I).toNat);case atStart=>exact⟨0,.slice none 0 0,ap _,rfl,⟨hB,Ow.nil,by omega,fun c hc=>by simp [eM]at hc⟩,aA.refl _ _ _⟩
   case round=>
    obtain⟨k,D,hk,rfl,J,F⟩:=hrel;have R:Fr o wr:=o0 (aA.fr hA F) (ag _);by_cases G:k<l.length;· obtain⟨b,cv,av,hv,c0⟩:=iI (M.fr (Q.trans R)) k G;have L:=ad (zz n l k G);rw [V.out]at L;generalize l[k]=x at *;cases hv;have bk:x % p<2 ^ n:=(by rw [V.out];exact jM _ (by omega));have cy:=ad (pG (x % p) n bc bk (o.heap.size+1) o.heap.size _ D _ wr J (by have:=ac.out k;omega) (by have:=F.1.size;omega));have i1:(0:Int)<=k:=(by omega);have i2:(k:Int)<l.length:=(by omega);have c3:((p:Int) == 0)=false:=(by simp;omega);have c4:p≠0:=(by omega);have dT:x % p<p:=jM _ (by omega);have ec:(x:Int).tmod p=((x % p:Nat):Int):=(by rw [Int.tmod_eq_emod_of_nonneg (by omega)];exact(Int.natCast_emod _ _).symm);clear bk;generalize x % p=y at *;go_wp2_with fail;refine cy.out.mono ?_;rintro e w4 ⟨rfl,a1,a2,X⟩;go_wp2_with fail;exact⟨⟨k+1,a1,by omega,by go_num,by rw [L.out];exact a2,F.trans X⟩,by simp [intOf];omega⟩
    · obtain rfl:k=l.length:=(by omega);have c5:¬((l.length:Int)<l.length):=(by omega);rw [cu]at J;go_wp2_with fail;have c6:Hid ((eM n l).length<=1280000):=(by have:=ac.out l.length;rw [cu]at this;exact this);clear HT ac;go_loopw [11,12] (fun tv I T=>∃ (k A:Nat) (D:Value) (m:List UInt8),k<=l.length/\I=N k/\tv=N A/\A<=20000/\m.length<=1280000+A+k/\cP T (o.heap.size+1) o.heap.size 246 D m/\aA o.heap.size (.slice none 0 0) D W0 T/\Hid (eM n l++fG n 0 l=m++fG n A (l.drop k))/\Hid (∃ K,bQ z K (l.drop k)=true/\A<=K / p)) (fun _ I _=>l.length - (intOf I).toNat);case atStart=>exact⟨0,0,D,eM n l,ap _,rfl,rfl,by omega,by have:=c6.out;omega,J,F,rfl,0,ca.out,ap _⟩
      case round=>
       generalize wr=T at *;clear J F;obtain⟨k,A,D,m,hk,rfl,rfl,ef,ek,J,F,Y,HR⟩:=hrel;have R:Fr o T:=o0 (aA.fr hA F) (ag _);by_cases G:k<l.length;· obtain⟨b,cv,av,hv,c0⟩:=iI (M.fr (Q.trans R)) k G;have L:=ad (zB n A l k G);rw [V.out]at L;have er:=HX.out _ (aH G);have c8:Hid (∀ W,af W eJ (.slice a l.length a5) l->∃ b' bn av,Value.slice a l.length a5=.slice (some ⟨b',bn,none⟩) l.length av/\W.cell? ⟨b',bn+k,none⟩=some (N l[k])):=fun W h=>iI h k G;have c9:A<=l[k] / p/\∃ K,bQ z K (l.drop (k+1))=true/\l[k] / p<=K / p:=(by obtain⟨K,Z,h2⟩:=HR.out;rw [qL z K l k G]at Z;simp only [f8,fi]at Z;exact⟨aq h2 (pP Z.1.1),l[k]+1,Z.2,pP (by omega)⟩);obtain⟨es,bt⟩:=c9;have cF:=ad bt;clear bt HR;have cG:Hid (eM n l++fG n 0 l=(m++gK (l[k] / p - A))++fG n (l[k] / p) (l.drop (k+1))):=(by show _=_;rw [Y.out,L.out];simp);clear Y L;generalize l[k]=x at *;cases hv;have ev:x / p<=x:=jO _ _;have bu:=sE (x / p - A);have da:=ad (Jp (x / p - A) (by omega) (o.heap.size+1) o.heap.size _ D m T J (by omega) (by have:=F.1.size;omega));have i1:(0:Int)<=k:=(by omega);have i2:(k:Int)<l.length:=(by omega);have c3:((p:Int) == 0)=false:=(by simp;omega);have c4:p≠0:=(by omega);have e0:(x:Int) / p=((x / p:Nat):Int):=(Int.natCast_ediv _ _).symm;generalize x / p=y at *;have e1:(y:Int) - A=((y - A:Nat):Int):=(by omega);have bx:(m++gK (y - A)).length<=1280000+y+(k+1):=(by rw [an,bu];omega);have dc:=ad bx;clear bx bu;generalize y - A=d at *;go_wp2_with fail;refine da.out.mono ?_;rintro e w4 ⟨rfl,a1,a2,X⟩;have dd:Fr o w4:=o0 (aA.fr hA (F.trans X)) (ag _);obtain⟨b4,e3,e4,di,d0⟩:=c8.out w4 (M.fr (Q.trans dd));cases di;go_wp2_with fail;exact⟨⟨k+1,y,a1,m++gK d,by omega,by go_num,rfl,by omega,dc.out,a2,F.trans X,cG.out,cF.out⟩,by simp [intOf];omega⟩
       · obtain rfl:k=l.length:=(by omega);have c5:¬((l.length:Int)<l.length):=(by omega);have HE:Hid (fF z l=nb++bM m):=(by have:=Y.out;rw [fZ,fG,dm]at this;show _=_;rw [U.out,this]);clear Y HR U;have dk:=ad (fun W (h:cP W (o.heap.size+1) o.heap.size 246 D m)=>AM (o.heap.size+1) o.heap.size 246 D m W h (by omega));have e6:=jb m;generalize bM m=pk at *;go_wp2_with fail;refine(dk.out _ J).mono ?_;rintro e w5 ⟨v5,rfl,dl,bz⟩;have b2:=(a7.rebase aa.size).fr (R.trans bz);have a4:=(Q.trans R).trans bz;go_wp2_with (at_builtin;refine aN eB rfl (.tmp 78) (.tmp 79) 29 rfl Tryz.underlying29 w.heap.size rfl b2 _ _ rfl dl.see (by omega) a4.size ?_);intro v6 w6 b3;go_wp2_with fail;go_ret2;exact⟨_,rfl,by rw [HE.out];exact b3.own,b3.below b2 a4 (ag _) a4.size⟩
def eU:al Tryz.prog Nat:=⟨231,1,2,0,.int .u16 0,fun n=>[.int .u16 (n:Int)],by kernel_rfl,by decide,by decide,by simp [Value.cells],fun _=>rfl,by intro x u d;simp at d;subst d;rfl⟩
structure vn (w:World) (T:TypeId) (base g n:Nat) (hv lv:Value) (hs ls:List Nat):Prop where
 at0:w.heap[g]? = some (.cells #[N n,hv,lv] T (0,0))
 hi:Ow w base eJ hv hs
 lo:Ow w base eU lv ls
 lt:g<base
abbrev Bf(w:World)(base g n:Nat)(d e:Value)(h m:List Nat):Prop:=vn w 229 base g n d e h m
theorem EE (x n : Nat) (hx : x ≤ 20000) (hn : n ≤ 14) {T : TypeId} (base g : Nat) (J I : Value) (o A : List Nat) (w : World) (h : vn w T base g n J I o A) (hl : o.length ≤ 20000) (cc : A.length ≤ 20000) (aj : base ≤ w.heap.size) :
    Calls Tryz.prog 157 #[.pointer (some ⟨g,0,none⟩),N x] w fun e w'=>e=.returned (.tuple #[])/\∃ m a7,vn w' T base g n m a7 (o++[x / 2 ^ n]) (A++[x % 2 ^ n])/\ak (fun k=>k=g\/J.ownBlock=some k\/I.ownBlock=some k) w w':=by
  obtain⟨O,Q,R,U⟩:=h
  have ba:=iB Q R (by decide)
  have e0:=ae O 0 rfl
  have e1:=ae O 1 rfl
  have e2:=ae O 2 rfl
  have cf:(x:Int) / 2 ^ n=((x / 2 ^ n:Nat):Int):=by simp
  have ch:x / 2 ^ n<=x:=jO _ _
  have bc:Hid (o.length+[x / 2 ^ n].length<=2147483648):=by show _<=_;simp;omega
  have HM:Hid (x % 2 ^ n=x % 2 ^ n):=rfl
  generalize X:x % 2 ^ n=z at *
  have HZ:=ad X
  clear X
  generalize hy:x / 2 ^ n=y at *
  have HY:=ad hy
  clear hy
  have cm:(0:Int)<=n:=by omega
  have cn:¬(n:Int)<0:=by omega
  have bd:Hid (base<=w.drew.heap.size):=aj
  have hD:=Q.drew
  have D:Fr w (w.alloc (.cells #[.int .i64 (y:Int)] 3)):=(Fr.refl w).alloc _
  have bk:=D.cell e0
  have bm:=D.cell e1
  clear D
  have bn:∀ k,J.ownBlock=some k->base<=k:=fun k F=>(Q.lt k F).1
  clear Q
  go_enter Tryz.func157, Tryz.ntmps157
  go_upto_region 0 with fail
  go_cut []from 4 to 18 (fun Y=>∃ m,Y.heap[g]? = some (.cells #[N n,m,I] T (0,0))/\Ow Y base eJ m (o++[y])/\ak (fun k=>k=g\/J.ownBlock=some k) w Y/\(∀ b,m.ownBlock=some b->J.ownBlock=some b\/w.heap.size<=b))
  case first=>
    go_region_law (refine oD eJ rfl (.tmp 8) (.tmp 15) 57 rfl Tryz.underlying57 base rfl hD [y] _ _ _ rfl rfl rfl bc.out bd.out ?_
                   intro v' w4 d
                   have K := d.own
                   have Z := ad d.chg'
                   have co := ad d.size
                   have bt := ad d.fresh
                   obtain ⟨L, M, m⟩ := K.shape'
                   have G := d.chg'.heap (show w.drew.heap[g]? = _ from O) (fun e => by have := bn g e; omega)
                   have e3 := ae G 1 rfl
                   have e4 : w4.frozen? ⟨g, 1, none⟩ = false := az G 1
                   clear d
                   subst m)
    all_goals go_wp2_with fail
    all_goals go_meet
    all_goals refine⟨.slice L (o.length+1) M,?_,et (by simpa using K) U,(Z.out.mono (fun k _ h=>Or.inr h)).trans (aw w4 ⟨g,1,none⟩ _) (fun k _ h=>Or.inl h),fun b hb=>bt.out b (by simpa using hb)⟩
    all_goals(have F:=aB G 1 (.slice L (o.length+1) M);simpa using F)
  case rest=>
    obtain⟨bz,h1,a3,ab,cp⟩:=hcut
    have V:Ow wc base eU I A:=R.chg ab fun q hq e=>by
      rcases e with e | e
      · have:=(R.lt q hq).1;omega
      · rcases ba with h | h
        · rw [h]at e;cases e
        · exact h (e.trans hq.symm)
    have c0:=ae h1 0 rfl
    have c2:=ae h1 2 rfl
    clear e0 e1 e2 bk bm R
    have b1:Hid (A.length+[z].length<=2147483648):=by show _<=_;simp;omega
    have b2:Hid (base<=wc.drew.heap.size):=aq aj ab.size
    have b3:=V.drew
    have hp:(2:Nat) ^ n<=16384:=eC (by omega) hn
    have b5:=kf n
    have ac:(2:Int) ^ n=((2 ^ n:Nat):Int):=by simp
    have w1:IntKind.i64.wrap ((2:Int) ^ n)=((2 ^ n:Nat):Int):=by rw [ac];exact ar _ (by omega)
    have w2:IntKind.i64.wrap (((2 ^ n:Nat):Int) - 1)=((2 ^ n - 1:Nat):Int):=by rw [ar _ (by omega)];omega
    have w3:bits .and .i64 (x:Int) ((2 ^ n - 1:Nat):Int)=(z:Int):=by
      rw [IQ _ _ (by omega) (by omega),Nat.and_two_pow_sub_one_eq_mod,HZ.out]
    have w4:IntKind.u16.wrap (z:Int)=(z:Int):=by
      have X:z<2 ^ n:=by rw [<- HZ.out];exact jM _ b5
      simp only [IntKind.wrap,IntKind.bits,IntKind.signed]
      simp
      omega
    have D:Fr wc (wc.alloc (.cells #[.int .u16 (z:Int)] 231)):=(Fr.refl wc).alloc _
    have cx:=D.cell c0
    have cy:=D.cell c2
    clear D
    have cz:=ad ac
    clear ac hp
    generalize 2 ^ n - 1=pm at *
    generalize a5:2 ^ n=pn at *
    have c4:=ad a5
    clear a5
    have b8:∀ k,I.ownBlock=some k->base<=k:=fun k F=>(V.lt k F).1
    have bA:=ad V
    have bB:=ad a3
    clear V a3
    go_upto_region 1 with fail

    go_region_law (refine oD eU rfl (.tmp 23) (.tmp 33) 227 rfl Tryz.underlying227 base rfl b3 [z] _ _ _ rfl rfl rfl b1.out b2.out ?_
                   intro v' w4 d
                   have K := d.own
                   have Z := ad d.chg'
                   have bR := ad (b9 bB.out bA.out d (by decide))
                   obtain ⟨L, M, m⟩ := K.shape'
                   have G := d.chg'.heap (show wc.drew.heap[g]? = _ from h1) (fun e => by have := b8 g e; omega)
                   have e3 := ae G 2 rfl
                   have e4 : w4.frozen? ⟨g, 2, none⟩ = false := az G 2
                   clear d
                   subst m)
    all_goals go_wp2_with fail
    all_goals go_end0
    all_goals refine⟨rfl,⟨bz,.slice L (A.length+1) M,⟨?_,?_,?_,U⟩⟩,(ab.mono (fun k _ h=>?_)).trans ((Z.out.mono (G':=fun k=>k=g\/I.ownBlock=some k) (fun k _ h=>.inr h)).trans (aw w4 ⟨g,2,none⟩ _) (fun k _ h=>.inl h)) (fun k _ h=>?_)⟩
    all_goals first
      | (have F:=aB G 2 (.slice L (A.length+1) M);simpa using F)
      | exact et bR.out U
      | (exact et (by simpa using K) U)
      | exact Or.elim h (fun h=>.inl h) (fun h=>.inr (.inl h))
      | exact Or.elim h (fun h=>.inl h) (fun h=>.inr (.inr h))
theorem IV(W:World)(o q:Value)(p0 p1:List UInt8)(y:af W eB o p0)(z:af W eB q p1)(G:p0.length+p1.length<=1000000) :
  Calls Tryz.prog 30 #[.slice (some ⟨W.heap.size,0,none⟩) 2 2] (W.alloc (.cells #[o,q] 29)) fun e w'=>∃ v,e=.returned v/\Ow w' W.heap.size eB v (p0++p1)/\Fr W w':=by
 obtain⟨d,rfl⟩:=oG y;obtain⟨h,rfl⟩:=oG z;have A:bY (W.alloc (.cells #[d.v,h.v] 29)) aP eB (.slice (some ⟨W.heap.size,0,none⟩) 2 2) [d,h] [p0,p1]:=by
  refine⟨iY aP W [d,h] _ _ 2 rfl rfl (by simp [maxLen]),rfl,fun i a b=>?_⟩;have m:=(Fr.refl W).alloc (.cells #[d.v,h.v] 29);have:i=0\/i=1:=(by simp at a;omega);rcases this with rfl | rfl;· exact y.fr m
  · exact z.fr m
 refine(lm _ _ _ _ A (by simp;omega)).mono ?_;rintro e w' ⟨v,D,F,m⟩;exact⟨v,D,by simpa using F.rebase (by simp),((Fr.refl W).alloc _).trans m⟩
theorem Cn{w:World}{v:Value}{l:List Nat}(h:af w eU v l)(k:Nat)(m:k<l.length) :
  ∃ b d e,v=.slice (some ⟨b,d,none⟩) l.length e/\w.cell? ⟨b,d+k,none⟩=some (.int .u16 (l[k]:Int)):=by
 obtain⟨b,d,e,o,q⟩:=h.cell1 (fun n:Nat=>Value.int .u16 (n:Int)) rfl k m;exact⟨b,d,e,o,q⟩
theorem Ln(z:Nat)(hb:z<=20000)(v:Value)(l:List Nat)(w:World)(hs:af w eJ v l)(R:bQ z 0 l=true)
  (HWd:Hid (∀ q W,1<=q->q=l.length->Calls Tryz.prog 156 #[N z,N q] W fun e w'=>e=.returned (N (Nat.log2 (z / q)))/\Fr W w')) :
  Calls Tryz.prog 105 #[N z,v] w fun e w'=>∃ v,e=.returned (.tuple #[v,.int .i64 0])/\Ow w' w.heap.size eB v (fF z l)/\Fr w w':=by
 obtain⟨a,fv,rfl,f0,cG,f1⟩:=hs.shape;unfold maxLen at cG;have f2:=qK z l 0 (ap _) R;have HM:=ad (DX z _ l w hs);rw [R]at HM;have HN:=ad (fun W=>jK l.length (by omega) W);have f3:=aG l.length (by omega);have HX:=ad (xY z l 0 R);have X:Hid (fF z l=ao l.length++if l=[]then []else bM (eM (Nat.log2 (z / l.length)) l++fG (Nat.log2 (z / l.length)) 0 l)):=rfl;generalize ao l.length=nb at *;have da:=ad R;clear R;have b0:¬(z:Int)<0:=by omega
 have b1:¬(20000:Int)<z:=by omega
 go_enter Tryz.func105, Tryz.ntmps105;go_wp2_with fail;refine HM.out.mono ?_;rintro e w1 ⟨rfl,a4⟩;go_wp2_with fail;refine(HN.out _).mono ?_;rintro e w2 ⟨v2,rfl,a5,bA⟩;have a6:=a4.trans bA;by_cases h0:l=[];· subst h0;go_wp2_with fail;go_ret2;exact⟨_,rfl,by rw [X.out];simpa using a5.rebase a4.size,a6⟩
 · have bB:0<l.length:=oq.2 h0;have f7:((l.length:Int) == 0)=false:=(by simp;omega);have HW:=ad (fun W=>HWd.out l.length W bB rfl);clear HWd;rw [ah h0]at X;have f9:1<=z / l.length:=Nat.div_pos (by omega) bB;have ga:z / l.length<=20000:=aq (jO _ _) hb;generalize hQ:z / l.length=q at *;have ba:Nat.log2 q<=14:=(by refine Nat.le_of_lt_succ ((Nat.log2_lt (by omega)).2 ?_);omega);generalize Nat.log2 q=n at *;clear hQ;go_wp2_with fail;refine(HW.out _).mono ?_;rintro e A ⟨rfl,bb⟩;have bc:=a6.trans bb;clear HW;go_wp2_with fail;have di:l.length<=20000:=(by omega);have hA:Fr A (A.alloc (.cells #[N n,Value.slice none 0 0,Value.slice none 0 0] 229)):=(Fr.refl A).alloc _;have hB:(A.alloc (.cells #[N n,Value.slice none 0 0,Value.slice none 0 0] 229)).heap[A.heap.size]? = some (.cells #[N n,Value.slice none 0 0,Value.slice none 0 0] 229 (0,0)):=au _ _ _ rfl;have gb:(A.alloc (.cells #[N n,Value.slice none 0 0,Value.slice none 0 0] 229)).heap.size=A.heap.size+1:=(by simp);generalize A.alloc (.cells #[N n,Value.slice none 0 0,Value.slice none 0 0] 229)=W0 at *;have cc:Bf W0 (A.heap.size+1) A.heap.size n (.slice none 0 0) (.slice none 0 0) [] []:=⟨hB,Ow.nil,Ow.nil,by omega⟩;have cf:Hid (∀ k (h:k<l.length),(l.take (k+1)).map (fun x=>x / 2 ^ n)=(l.take k).map (fun x=>x / 2 ^ n)++[l[k] / 2 ^ n]/\(l.take (k+1)).map (fun x=>x % 2 ^ n)=(l.take k).map (fun x=>x % 2 ^ n)++[l[k] % 2 ^ n]):=(by intro k h;rw [cL h,fN,fN];exact⟨rfl,rfl⟩);have ch:∀ k,((l.take k).map (fun x=>x / 2 ^ n)).length<=20000/\((l.take k).map (fun x=>x % 2 ^ n)).length<=20000:=fun k=>(by simp only [dQ,aV];omega);have cj:=ad ch;clear hB ch;go_loopw [43] (fun I wr=>∃ (k:Nat) (Y Z:Value),k<=l.length/\I=N k/\Bf wr (A.heap.size+1) A.heap.size n Y Z ((l.take k).map (fun x=>x / 2 ^ n)) ((l.take k).map (fun x=>x % 2 ^ n))/\Fr A wr) (fun I _=>l.length - (intOf I).toNat);case atStart=>exact⟨0,_,_,ap _,rfl,cc,hA⟩
   case round=>
    clear cc;obtain⟨k,Y,Z,hk,rfl,L,F⟩:=hrel;have dk:A.heap.size+1<=wr.heap.size:=(aR.1 L.at0).1;by_cases J:k<l.length
    · obtain⟨b,cm,cn,M,c0⟩:=iI (hs.fr (bc.trans F)) k J;have O:=ad (cf.out k J);have dl:=HX.out _ (aH J);have bd:=cj.out k;generalize (l.take k).map (fun x=>x / 2 ^ n)=dr at *;generalize (l.take k).map (fun x=>x % 2 ^ n)=ds at *;generalize l[k]=x at *;have HAdd:=ad (EE x n (by omega) ba (A.heap.size+1) A.heap.size Y Z dr ds wr L bd.1 bd.2 dk);have dv:=ad (fun j (e:Y.ownBlock=some j)=>(L.hi.lt j e).1);have d0:=ad (fun j (e:Z.ownBlock=some j)=>(L.lo.lt j e).1);cases M;have i1:(0:Int)<=k:=(by omega);have i2:(k:Int)<l.length:=(by omega);clear L bd;go_wp2_with fail;refine HAdd.out.mono ?_;rintro e w4 ⟨rfl,bf,d1,d2,d3⟩;go_wp2_with fail;go_roundw
      case rel => exact ⟨k + 1, bf, d1, by omega, by go_num, by rw [O.out.1, O.out.2]; exact d2, ak.below F d3 (by omega) (fun j hj => by
       rcases hj with h | h | h;· omega
       · have := dv.out j h; omega
       · have := d0.out j h; omega)⟩
      case measure=>simp [intOf];omega
    · obtain rfl:k=l.length:=(by omega);have gc:¬((l.length:Int)<l.length):=(by omega);rw [cu]at L;generalize wr=o at *;clear cj cf HN HM;obtain⟨ab,bk,bm,ge⟩:=L;have p0:=ae ab 0 rfl;have p1:=ae ab 1 rfl;have p2:=ae ab 2 rfl;obtain⟨ha,hc,ct⟩:=bk.shape';obtain⟨la,lc,cv⟩:=bm.shape';rw [dQ]at ct cv;have d5:=bc.trans F;have d6:=ad (bb.trans F);clear F hA bc a6 a4 bA bb ab;have T:Fr o (o.alloc (.cells #[Value.slice none 0 0,Value.int .i64 0] 202)):=(Fr.refl o).alloc _;have cx:(o.alloc (.cells #[Value.slice none 0 0,Value.int .i64 0] 202)).heap[o.heap.size]? = some (.cells #[Value.slice none 0 0,Value.int .i64 0] 202 (0,0)):=au _ _ _ rfl;have g1:(o.alloc (.cells #[Value.slice none 0 0,Value.int .i64 0] 202)).heap.size=o.heap.size+1:=(by simp);have P0:=T.cell p0;have P1:=T.cell p1;have P2:=T.cell p2;subst ct cv;go_wp2_with fail;have cy:∀ k,(eM n (l.take k)).length<=280000:=fun k=>(by rw [un,aV];exact aq (b7 (aq (Nat.min_le_right _ _) di) ba) (by omega));have bn:=ad cy;clear cy;generalize o.alloc (.cells #[Value.slice none 0 0,Value.int .i64 0] 202)=W2 at *;have cz:bK W2 (o.heap.size+1) o.heap.size 202 [] (.slice none 0 0) []:=⟨cx,Ow.nil,by omega,fun c hc=>by cases hc⟩;have d7:=ad bm;have d8:=ad bk;clear bm bk cx;go_loopw [53] (fun I U=>∃ (k:Nat) (G:Value),k<=l.length/\I=N k/\bK U (o.heap.size+1) o.heap.size 202 [] G (eM n (l.take k))/\aA o.heap.size (.slice none 0 0) G W2 U) (fun I _=>l.length - (intOf I).toNat);case atStart=>exact⟨0,_,ap _,rfl,cz,aA.refl _ _ _⟩
      case round=>
       clear cz;obtain⟨k,G,hk,rfl,V,K⟩:=hrel;have F:Fr o wr:=o0 (aA.fr T K) (ag _);have ac:o.heap.size+1<=wr.heap.size:=(by have:=K.1.size;omega);by_cases J:k<l.length
       · obtain⟨b,cm,cn,M,c0⟩:=Cn ((d7.out.fr F).see) k (by rw [dQ];exact J);rw [dQ]at M;have O:=ad (zz n l k J);rw [jw]at c0;have aj:l[k] % 2 ^ n<2 ^ n:=jM _ (kf n);have c1:l[k] % 2 ^ n<18446744073709551616:=jN aj (aq (eC (by omega) ba) (by omega));have g5:=bn.out k;generalize l[k] % 2 ^ n=y at *;generalize eM n (l.take k)=m at *;have d9:=ad (rI y n (by omega) aj (o.heap.size+1) o.heap.size _ [] G m wr V (by omega) ac);have q0:=F.cell p0;have g8:=ad aj;clear aj V;have w1:IntKind.u64.wrap (y:Int)=(y:Int):=aX _ (by omega);have g9:=ad c1;clear c1;cases M;have i1:(0:Int)<=k:=(by omega);have i2:(k:Int)<l.length:=(by omega);go_wp2_with fail;refine d9.out.mono ?_;rintro e w4 ⟨rfl,bu,bx,bz⟩;go_wp2_with fail;go_roundw;case rel=>exact⟨k+1,bu,by omega,by go_num,by rw [O.out];exact bx,K.trans bz⟩
         case measure=>simp [intOf];omega
       · obtain rfl:k=l.length:=(by omega);have dT:¬((l.length:Int)<l.length):=(by omega);rw [cu]at V;have q1:=F.cell p1;have ec:Hid ((eM n l).length<=280000):=(by have:=bn.out l.length;rw [cu]at this;exact this);clear bn;go_wp2_with fail;go_loopw [13,66] (fun tv I U=>∃ (k D:Nat) (G:Value) (m:List UInt8),k<=l.length/\I=N k/\tv=N D/\D<=20000/\m.length<=280000+D+k/\bK U (o.heap.size+1) o.heap.size 202 [] G m/\aA o.heap.size (.slice none 0 0) G W2 U/\Hid (eM n l++fG n 0 l=m++fG n D (l.drop k))/\Hid (∃ Q,bQ z Q (l.drop k)=true/\D<=Q / 2 ^ n)) (fun _ I _=>l.length - (intOf I).toNat);case atStart=>exact⟨0,0,G,eM n l,ap _,rfl,rfl,by omega,by have:=ec.out;omega,V,K,rfl,0,da.out,ap _⟩
         case round=>
          clear V K;clear F ac;obtain⟨k,D,G,m,hk,rfl,rfl,gB,gO,hW,K,HI,HR⟩:=hrel;have F:Fr o wr:=o0 (aA.fr T K) (ag _);have ac:o.heap.size+1<=wr.heap.size:=(by have:=K.1.size;omega);by_cases J:k<l.length
          · obtain⟨b,cm,cn,M,c0⟩:=iI ((d8.out.fr F).see) k (by rw [dQ];exact J);rw [dQ]at M;rw [jw]at c0;have O:=ad (zB n D l k J);have dl:=HX.out _ (aH J);have er:D<=l[k] / 2 ^ n/\∃ Q,bQ z Q (l.drop (k+1))=true/\l[k] / 2 ^ n<=Q / 2 ^ n:=(by obtain⟨Q,h1,h2⟩:=HR.out;rw [qL z Q l k J]at h1;simp only [f8,fi]at h1;exact⟨aq h2 (pP h1.1.1),l[k]+1,h1.2,pP (by omega)⟩);obtain⟨hd,c3⟩:=er;have ev:=ad c3;clear c3 HR;have e0:Hid (eM n l++fG n 0 l=(m++gK (l[k] / 2 ^ n - D))++fG n (l[k] / 2 ^ n) (l.drop (k+1))):=(by show _=_;rw [HI.out,O.out];simp);clear HI O;generalize l[k]=x at *;have he:x / 2 ^ n<=x:=jO _ _;generalize x / 2 ^ n=y at *;have c4:=sE (y - D);have e1:=ad (I0 (y - D) (by omega) (o.heap.size+1) o.heap.size _ [] G m wr hW (by omega) ac);cases M;have i1:(0:Int)<=k:=(by omega);have i2:(k:Int)<l.length:=(by omega);have hf:(y:Int) - D=((y - D:Nat):Int):=(by omega);have c6:(m++gK (y - D)).length<=280000+y+(k+1):=(by rw [an,c4];omega);have e2:=ad c6;clear c6 c4 hW;generalize y - D=d at *;go_wp2_with fail;refine e1.out.mono ?_;rintro e w4 ⟨rfl,bu,bx,bz⟩;go_wp2_with fail;go_roundw;case rel=>exact⟨k+1,y,bu,m++gK d,by omega,by go_num,rfl,by omega,e2.out,bx,K.trans bz,e0.out,ev.out⟩
            case measure=>simp [intOf];omega
          · obtain rfl:k=l.length:=(by omega);have dT:¬((l.length:Int)<l.length):=(by omega);have HE:Hid (fF z l=nb++bM m):=(by have:=HI.out;rw [fZ,fG,dm]at this;show _=_;rw [X.out,this]);clear HI HR X;have e4:=ad (fun W (h:bK W (o.heap.size+1) o.heap.size 202 [] G m)=>A6 (o.heap.size+1) o.heap.size 202 [] G m W h (by omega));have e5:=jb m;have hg:(bM m).length<=100000:=(by omega);clear e5;generalize bM m=pk at *;have e7:=ad (fun W v0 v1 p0 p1 s0 s1 hn=>IV W v0 v1 p0 p1 s0 s1 hn);go_wp2_with fail;refine(e4.out _ hW).mono ?_;rintro e w5 ⟨v5,rfl,c8,c9⟩;have cA:=d5.trans (F.trans c9);have fl:af w5 eB v2 nb:=(a5.fr (d6.out.trans (F.trans c9))).see;have HA:=ad (e7.out w5 v2 v5 nb pk fl c8.see (by omega));obtain⟨x2,c2,bf⟩:=a5.shape';obtain⟨x5,c5,fn⟩:=c8.shape';subst bf fn;go_wp2_with fail;refine HA.out.mono ?_;rintro e w6 ⟨v6,rfl,fr,fs⟩;go_wp2_with fail;go_ret2;exact⟨_,rfl,by rw [HE.out];exact fr.rebase cA.size,cA.trans fs⟩
def dh:al Tryz.prog It:=⟨352,2,16,⟨0,false,[]⟩,.agg #[.int .u64 0,.bool false],fun x=>[.int .u64 (x.w.toNat:Int),.bool x.leaf],by kernel_rfl,by decide,by decide,by simp [Value.cells],fun _=>rfl,by intro x u d;simp at d;rcases d with rfl | rfl <;> rfl⟩
def df(d e:List Nat):List It:=e.map fun s=>⟨UInt64.ofNat (d.getD s 0),true,[s]⟩
theorem qW(e d:List Nat):(df e d).length=d.length:=by simp [df]
theorem yU(d e:List Nat):∀ x∈df d e,x.leaf=true:=by
 intro x h;obtain⟨s,_,rfl⟩:=gt.1 h;rfl
theorem qX(e d:List Nat)(k:Nat)(h:k<d.length):(df e d)[k]? = some ⟨UInt64.ofNat (e.getD d[k] 0),true,[d[k]]⟩:=by simp [df,h]
theorem FO(I J:Value)(h d:List Nat)(w:World)(K:af w eV I h)(L:af w eJ J d)(hn:d.length<=1000000)(M:∀ s∈d,s<h.length)(O:∀ x∈h,x<4294967296) :
  Calls Tryz.prog 256 #[I,J] w fun e w'=>∃ v,e=.returned v/\Ow w' w.heap.size dh v (df h d)/\Fr w w':=by
 obtain⟨a,bc,rfl,bd,ac,bf⟩:=K.shape;obtain⟨a',bm,rfl,bn,aj,bt⟩:=L.shape;unfold maxLen at ac aj;have bu:=kS dh 347 Tryz.underlying347 .i64 .i64 d.length (by omega);have Q:=ad (oO (base:=w.heap.size) dh d.length (by omega) w (ag _));have T:=ad ((Fr.refl w).alloc (.cells (madeCells dh.z.cells (d.length*dh.k)) dh.e));have q:=ad (qW h d);have av:=ad (qX h d);generalize hR:df h d=R at *;clear hR;generalize hT:madeCells dh.z.cells (d.length*dh.k)=U at *;clear hT;go_enter Tryz.func256, Tryz.ntmps256;go_wp2_with fail;rw [show(dh:al Tryz.prog It).e=352 from rfl]at *;have V:=T.out;have X:(w.alloc (.cells U 352)).heap.size=w.heap.size+1:=by simp
 have Y:=Q.out;clear T Q;generalize w.alloc (.cells U 352)=W0 at *;have bx:=ad X;clear X;go_loopw [13] (fun D wr=>∃ k:Nat,k<=d.length/\D=N k/\Ow wr w.heap.size dh (.slice (some ⟨w.heap.size,0,none⟩) d.length d.length) (R.take k++List.replicate (d.length - k) (⟨0,false,[]⟩:It))/\Fr w wr) (fun D _=>d.length - (intOf D).toNat);case atStart=>exact⟨0,ap _,rfl,by simp only [gH,gI,Nat.sub_zero];exact Y,V⟩
 case round=>
  clear Y V;obtain⟨k,hk,rfl,z,o⟩:=hrel;by_cases m:k<d.length
  · obtain⟨b,bz,cp,hv,c1⟩:=iI (L.fr o) k m;have A:=av.out k m;have F:=M _ (aH m);generalize Z:d[k]=s at *;obtain⟨b2,b4,b5,a4,c2⟩:=o4 (K.fr o) s F;have e2:h.getD s 0=h[s]:=(by rw [cD,bo F];rfl);have a6:=O _ (aH F);rw [e2]at A;generalize h[s]=x at *;cases hv;cases a4;have aa:(R.take k++List.replicate (d.length - k) (⟨0,false,[]⟩:It)).length=d.length:=rq R _ _ _ q.out hk;have ab:((UInt64.ofNat x).toNat:Int)=x:=(by rw [pK];omega);have a7:=ad (z.set2 (fun y=>⟨_,_,rfl⟩) k (by rw [aa];exact m) (⟨UInt64.ofNat x,true,[s]⟩:It) (.int .u64 (x:Int)) (.bool true) (by show [Value.int .u64 ((UInt64.ofNat x).toNat:Int),Value.bool true]=_;rw [ab]));have ba:=ad (rp R (⟨0,false,[]⟩:It) d.length k q.out m ⟨UInt64.ofNat x,true,[s]⟩ (by rw [bo (by rw [q.out];exact m)]at A;exact ez A));obtain⟨u0,v0,d1,d2,G⟩:∃ u v,wr.cell? ⟨w.heap.size,k*2,none⟩=some u/\wr.cell? ⟨w.heap.size,k*2+1,none⟩=some v/\(∀ j,wr.frozen? ⟨w.heap.size,j,none⟩=false):=⟨_,_,z.cell2 k (by rw [aa];exact m) _ _ rfl⟩;have d4:=G (k*2);have d5:=G (k*2+1);clear G;have i1:(0:Int)<=k:=(by omega);have i2:(k:Int)<d.length:=(by omega);have i3:(0:Int)<=s:=(by omega);have i4:(s:Int)<h.length:=(by omega);have cl:=ad Z;have cm:IntKind.u64.wrap (x:Int)=(x:Int):=aX _ (by omega);clear Z A M O a6 ab;go_wp2_with fail;go_roundw;case rel=>exact⟨k+1,by omega,by go_num,by rw [<- ba.out];exact a7.out,db (db o (ag _) o.size) (ag _) (by simpa [World.setCell] using o.size)⟩
    case measure=>simp [intOf];omega
  · obtain rfl:k=d.length:=(by omega);have cn:¬((d.length:Int)<d.length):=(by omega);have e:R.take d.length++List.replicate (d.length - d.length) (⟨0,false,[]⟩:It)=R:=(by rw [e8,List.replicate_zero,dm,<- q.out,cu]);rw [e]at z;go_wp2_with fail;go_ret;exact⟨_,rfl,z,o⟩
theorem nG{w:World}{v:Value}{l:List It}(h:af w dh v l)(k:Nat)(m:k<l.length) :
  ∃ b d o,v=.slice (some ⟨b,d,none⟩) l.length o/\w.cell? ⟨b,d+k*2,none⟩=some (.int .u64 (l[k].w.toNat:Int))/\w.cell? ⟨b,d+k*2+1,none⟩=some (.bool l[k].leaf):=by
 obtain⟨b,d,o,rfl,A,D,q⟩:=h.cells (by intro e;simp [e]at m);have y:=q k m 0 (by decide) _ rfl;have z:=q k m 1 (by decide) _ rfl;exact⟨b,d,o,rfl,by simpa [dh] using y,by simpa [dh,mJ] using z⟩
theorem zD(d:List It)(k:Nat)(h:k+1<d.length):bH (d.drop k)=⟨d[k].w+d[k+1].w,false,d[k].syms++d[k+1].syms⟩::bH (d.drop (k+2)):=by
 rw [cM (by omega),cM h,bH]
theorem zC(d:List It)(k:Nat)(h:d.length<=k+1):bH (d.drop k)=[]:=by
 have e:(d.drop k).length<=1:=by rw [bN];omega
 generalize d.drop k=r at *
 match r,e with
 | [],_=>rfl
 | [_],_=>rfl
theorem wG(a b:UInt64):(a<=b)↔((a.toNat:Int)<=b.toNat):=by rw [UInt64.le_iff_toNat_le];omega
theorem sH(a b:UInt64):IntKind.u64.wrap ((a.toNat:Int)+b.toNat)=((a+b).toNat:Int):=by
 rw [mQ,UInt64.toNat_add];omega
theorem Fo(va vb:Value)(h d:List It)(w:World)(ha:af w dh va h)(O:af w dh vb d)(hn:h.length<=1000000)(hm:d.length<=2000000) :
  Calls Tryz.prog 257 #[va,vb] w fun e w'=>∃ v,e=.returned v/\Ow w' w.heap.size dh v (bj h (bH d))/\Fr w w':=by
 obtain⟨a,c3,rfl,c4,bt,c5⟩:=ha.shape;obtain⟨a',c7,rfl,c8,bu,c9⟩:=O.shape;unfold maxLen at bt bu;have V:=tW h (bH d);rw [nx]at V;have cA:(d.length:Int).tdiv 2=((d.length / 2:Nat):Int):=by rw [Int.tdiv_eq_ediv_of_nonneg (by omega)];omega
 have cF:(d.length:Int) / 2=((d.length / 2:Nat):Int):=by omega
 have cG:IntKind.i64.wrap ((h.length:Int)+((d.length / 2:Nat):Int))=((h.length+d.length / 2:Nat):Int):=by rw [ar _ (by omega)];omega
 have bv:h.length+d.length / 2<=1000000000:=by omega
 have bx:Hid (bj h (bH d)=[]++bj (h.drop 0) (bH (d.drop 0))):=by show _=_;simp
 have da:=ad V;clear V;generalize bj h (bH d)=R at *;generalize ba:h.length+d.length / 2=C at *;have HC:=ad ba;clear ba;generalize d.length / 2=rh at *;go_enter Tryz.func257, Tryz.ntmps257;go_wp2_with (refine s7 dh rfl (.const (.int .i64 0)) (.tmp 14) 347 rfl Tryz.underlying347 .i64 .i64 (C:Int) C rfl ?c1 rfl bv w.heap.size (ag _) ?_);case c1=>first | rfl | trivial
 intro w1 bb bc;have bd:Fr w w1:=Fr.own (Fr.refl w) bc (fun k X=>by cases X);go_wp2_with fail;clear bc;go_loopw [5,6,7] (fun ov iv kv wr=>∃ (i k:Nat) (m:List It),i<=h.length/\k<=d.length/\iv=N i/\kv=N k/\m.length<=i+k/\Ow wr w.heap.size dh ov m/\Hid (R=m++bj (h.drop i) (bH (d.drop k)))/\Fr w wr) (fun _ iv kv _=>h.length - (intOf iv).toNat+(d.length - (intOf kv).toNat));case atStart=>exact⟨0,0,[],ap _,ap _,rfl,rfl,by simp,bb,bx,bd⟩
 case round=>
  clear bb bd;obtain⟨i,k,m,hi,X,rfl,rfl,V,D,F,o⟩:=hrel;have di:IntKind.i64.wrap ((k:Int)+1)=((k+1:Nat):Int):=(by rw [ar _ (by omega)];omega);by_cases bf:i<h.length
  · have b4:(i:Int)<h.length:=(by omega);obtain⟨b,dj,cp,hv,Y,c1⟩:=nG (ha.fr o) i bf;have K:=ad (cM bf);have dl:Hid (dh.cells [h[i]]=[.int .u64 (h[i].w.toNat:Int),.bool h[i].leaf]):=rfl;generalize h[i]=x at *;have dr:=fY x.w;cases hv;have j1:(0:Int)<=i:=(by omega);by_cases Q:k+1<d.length
    · have a1:((k+1:Nat):Int)<d.length:=(by omega);obtain⟨b2,bA,bB,T,Z,d1⟩:=nG (O.fr o) k (by omega);obtain⟨b3,ca,cb,U,e0,e1⟩:=nG (O.fr o) (k+1) Q;rw [T]at U;cases U;have J:=ad (zD d k Q);generalize d[k]=p at *;generalize d[k+1]=q at *;cases T;have cc:=sH p.w q.w;have HU:=ad (wG x.w (p.w+q.w));generalize L:(⟨p.w+q.w,false,p.syms++q.syms⟩:It)=y at *;have a2:Hid (dh.cells [y]=[.int .u64 ((p.w+q.w).toNat:Int),.bool false]):=(by subst L;rfl);have bk:Hid (y.w=p.w+q.w):=(by subst L;rfl);have cf:=fY (p.w+q.w);have ch:=fY p.w;have cj:=fY q.w;clear L;generalize (p.w+q.w).toNat=s at *;generalize p.w.toNat=pw at *;generalize q.w.toNat=qw at *;have j2:(0:Int)<=k:=(by omega);have j3:(k:Int)<d.length:=(by omega);have j4:(0:Int)<=((k+1:Nat):Int):=(by omega);have ct:¬(d.length:Int)<=((k+1:Nat):Int):=(by omega);have a3:k+2<=d.length:=(by omega);have cv:IntKind.i64.wrap ((k:Int)+2)=((k+2:Nat):Int):=(by rw [ar _ (by omega)];omega);have bm:=D;by_cases M:x.w<=p.w+q.w
      · have cx:(x.w.toNat:Int)<=s:=HU.out.1 M;have G:Hid (R=(m++[x])++bj (h.drop (i+1)) (bH (d.drop k))):=(by show _=_;rw [F.out,J.out,K.out,bj,ai (by rw [bk.out];exact M)];simp);clear F K J HU M bm;go_upto_region 7 with fail;go_quiet (fail);have I:=D.fr ((Fr.refl wr).drewN nq);have z:=o.trans ((Fr.refl wr).drewN nq);replace Y:=((Fr.refl wr).drewN nq).cell Y;replace c1:=((Fr.refl wr).drewN nq).cell c1;clear D o Z d1 e0 e1;generalize wr.drewN nq=w5 at *;go_wp2_with (at_builtin;refine aM dh rfl (.tmp 66) (.tmp 71) 347 rfl Tryz.underlying347 w.heap.size rfl I [x] _ _ _ rfl rfl rfl (by simp;omega) z.size ?_);intro v' w4 A;go_wp2_with fail;go_roundw;case rel=>exact⟨i+1,k,m++[x],by omega,X,by go_num,rfl,by simp;omega,A.own,G,A.below I z (ag _) z.size⟩
        case measure=>simp [intOf];omega
      · have cx:¬(x.w.toNat:Int)<=s:=fun e=>M (HU.out.2 e);have G:Hid (R=(m++[y])++bj (h.drop i) (bH (d.drop (k+2)))):=(by show _=_;rw [F.out,J.out,K.out,bj,ah (by rw [bk.out];exact M)];simp);clear F K J HU M bm;go_upto_region 7 with fail;go_quiet (fail);have I:=D.fr ((Fr.refl wr).drewN nq);have z:=o.trans ((Fr.refl wr).drewN nq);replace Y:=((Fr.refl wr).drewN nq).cell Y;replace c1:=((Fr.refl wr).drewN nq).cell c1;clear D o Z d1 e0 e1;generalize wr.drewN nq=w5 at *;go_wp2_with (at_builtin;refine aM dh rfl (.tmp 75) (.tmp 78) 347 rfl Tryz.underlying347 w.heap.size rfl I [y] _ _ _ (by rw [a2.out]) rfl rfl (by simp;omega) z.size ?_);intro v' w4 A;go_wp2_with fail;go_roundw;case rel=>exact⟨i,k+2,m++[y],hi,a3,rfl,by go_num,by simp;omega,A.own,G,A.below I z (ag _) z.size⟩
        case measure=>simp [intOf];omega
    · have a1:¬((k+1:Nat):Int)<d.length:=(by omega);have dv:(d.length:Int)<=((k+1:Nat):Int):=(by omega);have G:Hid (R=(m++[x])++bj (h.drop (i+1)) (bH (d.drop k))):=(by have h1:=zC d k (by omega);show _=_;rw [F.out,h1,lH,lH,K.out];simp);clear F K;go_wp2_with (at_builtin;refine aM dh rfl (.tmp 32) (.tmp 37) 347 rfl Tryz.underlying347 w.heap.size rfl D [x] _ _ _ rfl rfl rfl (by simp;omega) o.size ?_);intro v' w4 A;go_wp2_with fail;go_roundw;case rel=>exact⟨i+1,k,m++[x],by omega,X,by go_num,rfl,by simp;omega,A.own,G,A.below D o (ag _) o.size⟩
      case measure=>simp [intOf];omega
  · obtain rfl:i=h.length:=(by omega);have b4:¬(h.length:Int)<h.length:=(by omega);by_cases Q:k+1<d.length
    · have a1:((k+1:Nat):Int)<d.length:=(by omega);obtain⟨b2,bA,bB,T,Z,d1⟩:=nG (O.fr o) k (by omega);obtain⟨b3,ca,cb,U,e0,e1⟩:=nG (O.fr o) (k+1) Q;rw [T]at U;cases U;have J:=ad (zD d k Q);generalize d[k]=p at *;generalize d[k+1]=q at *;cases T;have cc:=sH p.w q.w;generalize L:(⟨p.w+q.w,false,p.syms++q.syms⟩:It)=y at *;have a2:Hid (dh.cells [y]=[.int .u64 ((p.w+q.w).toNat:Int),.bool false]):=(by subst L;rfl);have cf:=fY (p.w+q.w);have ch:=fY p.w;have cj:=fY q.w;clear L;generalize (p.w+q.w).toNat=s at *;generalize p.w.toNat=pw at *;generalize q.w.toNat=qw at *;have j2:(0:Int)<=k:=(by omega);have j3:(k:Int)<d.length:=(by omega);have j4:(0:Int)<=((k+1:Nat):Int):=(by omega);have ct:¬(d.length:Int)<=((k+1:Nat):Int):=(by omega);have a3:k+2<=d.length:=(by omega);have cv:IntKind.i64.wrap ((k:Int)+2)=((k+2:Nat):Int):=(by rw [ar _ (by omega)];omega);have G:Hid (R=(m++[y])++bj (h.drop h.length) (bH (d.drop (k+2)))):=(by show _=_;rw [F.out,J.out,fZ,n8,n8];simp);clear F J;go_upto_region 7 with fail;go_quiet (fail);have I:=D.fr ((Fr.refl wr).drewN nq);have z:=o.trans ((Fr.refl wr).drewN nq);clear D o Z d1 e0 e1;generalize wr.drewN nq=w5 at *;go_wp2_with (at_builtin;refine aM dh rfl (.tmp 75) (.tmp 78) 347 rfl Tryz.underlying347 w.heap.size rfl I [y] _ _ _ (by rw [a2.out]) rfl rfl (by simp;omega) z.size ?_);intro v' w4 A;go_wp2_with fail;go_roundw;case rel=>exact⟨h.length,k+2,m++[y],ag _,a3,rfl,by go_num,by simp;omega,A.own,G,A.below I z (ag _) z.size⟩
      case measure=>simp [intOf];omega
    · have a1:¬((k+1:Nat):Int)<d.length:=(by omega);have G:Hid (R=m):=(by have h1:=zC d k (by omega);show _=_;rw [F.out,h1,fZ,lH,dm]);clear F;go_wp2_with fail;go_ret;exact⟨_,rfl,by rw [G.out];exact D,o⟩
def bT(b:Bool)(l:List am):List UInt8:=(l.map (ff b)).flatten
theorem Ao(b:Bool)(l:List am)(k:Nat)(h:k<l.length):bT b (l.take (k+1))=bT b (l.take k)++ff b l[k]:=pe _ l k h
theorem An(b:Bool)(l:List am)(k:Nat):(bT b (l.take k)).length<=(bT b l).length:=by
 unfold bT;rw [fU,fU];exact qh _ l k
theorem Bq(d:Bool)(K:Hid (∀ (r:am) (W:World),r.source.length<=100000->r.text.length<=100000->Calls Tryz.prog 55 #[.bool d,jA r] W fun e w'=>∃ v,e=.returned v/\Ow w' W.heap.size eB v (ff d r)/\Fr W w'))(v:Value)(l:List am)(w:World)(A:af w eR v l)(V:(bT d l).length<=1000000)(D:∀ r∈l,r.source.length<=100000/\r.text.length<=100000) :
  Calls Tryz.prog 34 #[.bool d,v] w fun e w'=>∃ v,e=.returned v/\Ow w' w.heap.size eB v (bT d l)/\Fr w w':=by
 obtain⟨a,X,rfl,Y,L,Z⟩:=A.shape;unfold maxLen at L;have M:=ad D;clear D;go_enter Tryz.func34, Tryz.ntmps34;go_wp2_with fail;go_loopw [5,10] (fun O m wr=>∃ k:Nat,k<=l.length/\m=N k/\Ow wr w.heap.size eB O (bT d (l.take k))/\Fr w wr) (fun _ m _=>l.length - (intOf m).toNat);case atStart=>exact⟨0,ap _,rfl,Ow.nil,Fr.refl w⟩
 case round=>
  obtain⟨k,hk,rfl,o,q⟩:=hrel;by_cases y:k<l.length;· obtain⟨b,ab,ac,Q,c0,c1,c2,c3⟩:=gh (A.fr q) k y;have F:=ad (Ao d l k y);have R:=An d l (k+1);rw [F.out,an]at R;have G:=M.out _ (aH y);have T:=ad (fun W=>K.out l[k] W G.1 G.2);generalize l[k]=r at *;cases Q;have i1:(0:Int)<=k:=(by omega);have i2:(k:Int)<l.length:=(by omega);go_wp2_with fail;refine(T.out _).mono ?_;rintro e w1 ⟨v1,rfl,U,h⟩;have z:=q.alloc (.cells #[.int .u64 r.time.toNat,Fk.u8 r.level,S r.source,S r.text] 37);have I:=(o.fr ((Fr.refl wr).alloc (.cells #[.int .u64 r.time.toNat,Fk.u8 r.level,S r.source,S r.text] 37))).fr h;go_wp2_with (at_builtin;refine aN eB rfl (.tmp 14) (.tmp 17) 29 rfl Tryz.underlying29 w.heap.size rfl I _ _ rfl U.see (by omega) (z.trans h).size ?_);intro v' w4 J;go_wp2_with fail;exact⟨⟨k+1,by omega,by go_num,by rw [F.out];exact J.own,J.below I (z.trans h) (ag _) (z.trans h).size⟩,by simp [intOf];omega⟩
  · obtain rfl:k=l.length:=(by omega);have a5:¬((l.length:Int)<l.length):=(by omega);rw [cu]at o;go_wp2_with fail;go_ret;exact⟨_,rfl,o,q⟩
theorem Lt(v:Value)(l:List am)(w:World)(d:af w eR v l)(h:(bT false l).length<=1000000)(m:∀ r∈l,r.source.length<=100000/\r.text.length<=100000) :
  Calls Tryz.prog 34 #[.bool false,v] w fun e w'=>∃ v,e=.returned v/\Ow w' w.heap.size eB v (bT false l)/\Fr w w':=
 Bq false (fun r W o q=>y6 r W o q) v l w d h m
theorem Bc(d:Bool)(v:Value)(l:List am)(w:World)(z:af w eR v l)(T:(bT d l).length<=1000000)(A:∀ r∈l,r.source.length<=100000/\r.text.length<=100000) :
  Calls Tryz.prog 76 #[.bool d,v] w fun e w'=>∃ v,e=.returned v/\Ow w' w.heap.size eB v (bT d l)/\Fr w w':=by
 obtain⟨a,U,rfl,V,J,X⟩:=z.shape;unfold maxLen at J;have K:=ad A;clear A;go_enter Tryz.func76, Tryz.ntmps76;go_wp2_with fail;go_loopw [5,6] (fun L o wr=>∃ k:Nat,k<=l.length/\o=N k/\Ow wr w.heap.size eB L (bT d (l.take k))/\Fr w wr) (fun _ o _=>l.length - (intOf o).toNat);case atStart=>exact⟨0,ap _,rfl,Ow.nil,Fr.refl w⟩
 case round=>
  obtain⟨k,Y,rfl,q,h⟩:=hrel;by_cases y:k<l.length;· obtain⟨b,Z,aa,M,c0,c1,c2,c3⟩:=gh (z.fr h) k y;have D:=ad (Ao d l k y);have O:=An d l (k+1);rw [D.out,an]at O;have F:=K.out _ (aH y);have Q:=ad (fun W=>ve d l[k] W F.1 F.2);generalize l[k]=r at *;cases M;have i1:(0:Int)<=k:=(by omega);have i2:(k:Int)<l.length:=(by omega);go_wp2_with fail;refine(Q.out _).mono ?_;rintro e w1 ⟨v1,rfl,R,m⟩;have G:=q.fr m;go_wp2_with (at_builtin;refine aN eB rfl (.tmp 13) (.tmp 19) 29 rfl Tryz.underlying29 w.heap.size rfl G _ _ rfl R.see (by omega) (h.trans m).size ?_);intro v' w4 I;go_wp2_with fail;exact⟨⟨k+1,by omega,by go_num,by rw [D.out];exact I.own,I.below G (h.trans m) (ag _) (h.trans m).size⟩,by simp [intOf];omega⟩
  · obtain rfl:k=l.length:=(by omega);have a3:¬((l.length:Int)<l.length):=(by omega);rw [cu]at q;go_wp2_with fail;go_ret;exact⟨_,rfl,q,h⟩
def aD(b:Bool)(r:am):Nat:=(ff b r).length
theorem Dz(m:List Nat)(x y:Nat):(m++[x]).set m.length y=m++[y]:=by
 rw [List.set_append_right _ _ (ag _),e8];rfl
theorem Bl(o:Bool)(H1:Hid (∀ (r:am) (W:World),r.source.length<=100000->r.text.length<=100000->Calls Tryz.prog 55 #[.bool o,jA r] W fun e w'=>∃ v,e=.returned v/\Ow w' W.heap.size eB v (ff o r)/\Fr W w'))(q:Nat)(bA:2<=q)(bB:q<=1000000)(v:Value)(l:List am)(w:World)(hs:af w eR v l)(hl:l.length<=1000000)(hb:∀ r∈l,r.source.length<=100000/\r.text.length<=100000) :
  Calls Tryz.prog 28 #[N q,.bool o,v] w fun e w'=>∃ v,e=.returned v/\Ow w' w.heap.size eJ v (aT q (aD o) l)/\Fr w w':=by
 obtain⟨a,ca,rfl,cb,bv,cc⟩:=hs.shape;unfold maxLen at bv;have HB:=ad hb;clear hb;have cf:(1:Int)<q:=by omega
 go_enter Tryz.func28, Tryz.ntmps28;go_wp2_with fail;go_loopw [7,8,14] (fun ov Z iv wr=>∃ (k h:Nat) (m:List Nat),k<=l.length/\iv=N k/\Z=N h/\h<=1000000+300000/\m.length<=k/\Ow wr w.heap.size eJ ov m/\Hid ((k=0/\m=[]/\h=0)\/∃ c d,m=d++[c]/\c<=k/\aT q (aD o) l=d++eu q (aD o) c h (l.drop k))/\Fr w wr) (fun _ _ iv _=>l.length - (intOf iv).toNat);case atStart=>exact⟨0,0,[],ap _,rfl,rfl,by omega,ag _,Ow.nil,.inl ⟨rfl,rfl,rfl⟩,Fr.refl w⟩
 case round=>
  obtain⟨k,h,m,hk,rfl,rfl,hh,ab,ac,L,hf⟩:=hrel;by_cases V:k<l.length
  · obtain⟨b,cl,cm,Z,c0,c1,c2,c3⟩:=gh (hs.fr hf) k V;have X:=HB.out _ (aH V);have HO:=ad (fun W=>H1.out l[k] W X.1 X.2);have cs:aD o l[k]<=200031:=(by have:=tN o l[k] X.1 X.2;unfold aD;omega);have av:=ad (cM V);have a0:Hid (k=0->aT q (aD o) l=eu q (aD o) 1 (aD o l[k]) (l.drop (k+1))):=by
     intro M;subst M
     cases l with
     | nil=>simp at V
     | cons r l=>rfl
    have a7:Hid (aD o l[k]=(ff o l[k]).length):=rfl;generalize ba:aD o l[k]=n at *;generalize l[k]=r at *;have b1:=ad ba;clear ba;cases Z;have i1:(0:Int)<=k:=(by omega);have i2:(k:Int)<l.length:=(by omega);have b2:=hf.alloc (.cells #[.int .u64 r.time.toNat,Fk.u8 r.level,S r.source,S r.text] 37);have bb:=ac.fr ((Fr.refl wr).alloc (.cells #[.int .u64 r.time.toNat,Fk.u8 r.level,S r.source,S r.text] 37));have cx:IntKind.i64.wrap ((h:Int)+n)=(h:Int)+n:=ar _ (by omega);go_wp2_with fail;refine(HO.out _).mono ?_;rintro e w1 ⟨v1,rfl,bc,bd⟩;obtain⟨c4,c5,bf⟩:=bc.shape';rw [<- a7.out]at bf;subst bf;have G:=bb.fr bd;have I:=b2.trans bd;clear ac bb bc a7;by_cases a1:k=0
    · have b3:m=[]/\h=0:=by
        rcases L.out with⟨_,J,h2⟩ | ⟨c,d,J,_⟩;· exact⟨J,h2⟩
        · rw [J]at ab;simp at ab;omega
      obtain⟨rfl,rfl⟩:=b3;have HE:=ad (a0.out a1);clear L a0 av;obtain⟨oa,oc,O⟩:=G.shape';rw [fz]at O;subst O;go_wp2_with (at_builtin;refine aM eJ rfl (.tmp 33) (.tmp 34) 57 rfl Tryz.underlying57 w.heap.size rfl G [0] _ _ _ rfl rfl rfl (by simp) I.size ?_);intro v' w4 K;have y:=K.own;have z:=K.below G I (ag _) I.size;try rw [gI]at y
      obtain⟨g,gc,D,Q,bm,_,_⟩:=y.atHead (by simp);rw [show([(0:Nat)]).length=1 from by simp]at D;subst D;obtain⟨R,z2⟩:=y.cellAt (fun n=>N n) rfl 0 (by simp);have A:=y.set (fun n=>N n) rfl 0 (by simp) 1 (.int .i64 1) rfl;rw [show([(0:Nat)])[0]'(by simp)=0 from by simp]at R;rw [show([(0:Nat)]).set 0 1=[1]from rfl]at A;have F:=db (i:=0) (u:=.int .i64 1) z Q (Fr.size z);have T:=ad A;have U:=ad F;clear y A F z;go_wp2_with fail;exact⟨⟨k+1,0+n,[1],by omega,by go_num,by go_num,by omega,by simp,T.out,(by subst a1;exact .inr ⟨1,[],rfl,by omega,by rw [HE.out];simp⟩),U.out⟩,by simp [intOf];omega⟩
    · obtain⟨c,d,rfl,c6,HG⟩:∃ c d,m=d++[c]/\c<=k/\aT q (aD o) l=d++eu q (aD o) c h (l.drop k):=by
        rcases L.out with⟨M,_⟩ | J;· exact absurd M a1
        · exact J
      rw [av.out,eu,b1.out]at HG;have Y:=ad HG;clear L a0 HG av;obtain⟨oa,oc,O⟩:=G.shape';rw [show(d++[c]).length=d.length+1 from by simp]at O ab;subst O;have c7:((d.length:Int)+1 == 0)=false:=(by simp;omega);by_cases bt:h+n<=q;· have b8:decide ((q:Int)<(h:Int)+n)=false:=(by simp;omega);have y:=G;have z:=I;rw [ai bt]at Y;have c8:(c:Int)<=1000000:=(by omega);have c9:(0:Int)<=c:=(by omega);obtain⟨g,gc,D,Q,bm,_,_⟩:=y.atHead (by simp);rw [show(d++[c]).length=d.length+1 from by simp]at D;cases D;obtain⟨R,z2⟩:=y.cellAt (fun n=>N n) rfl d.length (by simp);have A:=y.set (fun n=>N n) rfl d.length (by simp) (c+1) (.int .i64 ((c:Int)+1)) rfl;rw [show(d++[c])[d.length]'(by simp)=c from by simp]at R;rw [show(d++[c]).set d.length (c+1)=(d++[c+1])from Dz d c (c+1)]at A;have F:=db (i:=d.length) (u:=.int .i64 ((c:Int)+1)) z Q (Fr.size z);have T:=ad A;have U:=ad F;clear y A F z;go_wp2_with fail;exact⟨⟨k+1,h+n,(d++[c+1]),by omega,by go_num,by go_num,by omega,by simp;omega,by simpa using T.out,.inr ⟨c+1,d,rfl,by omega,Y.out⟩,U.out⟩,by simp [intOf];omega⟩
      · have b8:decide ((q:Int)<(h:Int)+n)=true:=(by simp;omega);have cA:(q:Int)<(h:Int)+n:=(by omega);have cF:¬(h:Int)+n<=q:=(by omega);rw [ah bt]at Y;go_wp2_with (at_builtin;refine aM eJ rfl (.tmp 33) (.tmp 34) 57 rfl Tryz.underlying57 w.heap.size rfl G [0] _ _ _ rfl rfl rfl (by simp;omega) I.size ?_);intro v' w4 K;have y:=K.own;have z:=K.below G I (ag _) I.size;have cG:(d++[c]++[0]:List Nat).length=d.length+1+1:=(by simp);have y:Ow w4 w.heap.size eJ v' (d++[c]++[0]):=(by simpa using y);clear K;obtain⟨g,gc,D,Q,bm,_,_⟩:=y.atHead (by simp);rw [show(d++[c]++[0]:List Nat).length=d.length+1+1 from by simp]at D;subst D;obtain⟨R,z2⟩:=y.cellAt (fun n=>N n) rfl (d.length+1) (by simp);have A:=y.set (fun n=>N n) rfl (d.length+1) (by simp) 1 (.int .i64 1) rfl;rw [show(d++[c]++[0]:List Nat)[(d.length+1)]'(by simp)=0 from by simp]at R;rw [show(d++[c]++[0]:List Nat).set (d.length+1) 1=(d++[c]++[1])from by simp]at A;have F:=db (i:=(d.length+1)) (u:=.int .i64 1) z Q (Fr.size z);have T:=ad A;have U:=ad F;clear y A F z;go_wp2_with fail;exact⟨⟨k+1,n,(d++[c]++[1]),by omega,by go_num,by go_num,by omega,by simp;omega,by simpa using T.out,.inr ⟨1,d++[c],rfl,by omega,by rw [Y.out];simp⟩,U.out⟩,by simp [intOf];omega⟩
  · obtain rfl:k=l.length:=(by omega);have da:¬((l.length:Int)<l.length):=(by omega);have HE:Hid (m=aT q (aD o) l):=by
     show _=_;rcases L.out with⟨M,rfl,_⟩ | ⟨c,d,J,_,h2⟩;· have:l=[]:=ib M;subst this;rfl
     · rw [J,h2,fZ,eu]
    go_wp2_with fail;go_ret;exact⟨_,rfl,by rw [<- HE.out];exact ac,hf⟩
theorem Ll(d:Nat)(h:2<=d)(m:d<=1000000)(v:Value)(l:List am)(w:World)(o:af w eR v l)(q:l.length<=1000000)(y:∀ r∈l,r.source.length<=100000/\r.text.length<=100000) :
  Calls Tryz.prog 28 #[N d,.bool false,v] w fun e w'=>∃ v,e=.returned v/\Ow w' w.heap.size eJ v (aT d (aD false) l)/\Fr w w':=
 Bl false (fun r W z A=>y6 r W z A) d h m v l w o q y
theorem G7{α:Type}(S:Nat)(f:α->Nat)(l:List α)(k:Nat)(h:k<l.length):aT S f (l.drop k)=eu S f 1 (f l[k]) (l.drop (k+1)):=by
 rw [cM h];rfl
theorem G5{α:Type}(S:Nat)(f:α->Nat)(c h:Nat)(l:List α)(k:Nat)(d:k<l.length)(e:h+f l[k]<=S):eu S f c h (l.drop k)=eu S f (c+1) (h+f l[k]) (l.drop (k+1)):=by
 rw [cM d,eu,ai e]
theorem G6{α:Type}(S:Nat)(f:α->Nat)(c h:Nat)(l:List α)(k:Nat)(d:k<l.length)(e:¬h+f l[k]<=S):eu S f c h (l.drop k)=c::aT S f (l.drop k):=by
 rw [cM d,eu,ah e];rfl
theorem AZ(d:Bool)(o:Nat)(bR:1<=o)(ca:o<=1000000)(v:Value)(l:List am)(w:World)(Y:af w eR v l)(hl:l.length<=1000000)(Z:∀ r∈l,r.source.length<=100000/\r.text.length<=100000) :
  Calls Tryz.prog 74 #[N o,.bool d,v] w fun e w'=>∃ v,e=.returned v/\Ow w' w.heap.size eJ v (aT o (aD d) l)/\Fr w w':=by
 obtain⟨a,cc,rfl,cf,bt,ch⟩:=Y.shape;unfold maxLen at bt;have HB:=ad Z;have a6:Hid (∀ r∈l,aD d r<=200031):=fun r hr=>by have h1:=Z r hr;have:=tN d r h1.1 h1.2;unfold aD;omega
 clear Z;have cj:¬(o:Int)<1:=by omega
 go_enter Tryz.func74, Tryz.ntmps74;go_wp2_with fail;go_loopw [7,8] (fun ov iv wr=>∃ (k:Nat) (m:List Nat),k<=l.length/\iv=N k/\m.length<=k/\Ow wr w.heap.size eJ ov m/\Hid (aT o (aD d) l=m++aT o (aD d) (l.drop k))/\Fr w wr) (fun _ iv _=>l.length - (intOf iv).toNat);case atStart=>exact⟨0,[],ap _,rfl,ag _,Ow.nil,rfl,Fr.refl w⟩
 case round=>
  obtain⟨k,m,hk,rfl,cm,ab,HG,T⟩:=hrel;by_cases U:k<l.length
  · obtain⟨b,bx,bz,J,c0,c1,c2,c3⟩:=gh (Y.fr T) k U;have K:=HB.out _ (aH U);have D:=ad (fun W=>ve d l[k] W K.1 K.2);have cn:=a6.out _ (aH U);have b0:Hid (aT o (aD d) l=m++eu o (aD d) 1 (aD d l[k]) (l.drop (k+1))):=(by show _=_;rw [HG.out,G7 o _ l k U]);have F:Hid (aD d l[k]=(ff d l[k]).length):=rfl;generalize aD d l[k]=n0 at *;generalize l[k]=r at *;cases J;have i1:(0:Int)<=k:=(by omega);have i2:(k:Int)<l.length:=(by omega);go_wp2_with fail;refine(D.out _).mono ?_;rintro e w1 ⟨v1,rfl,bb,a1⟩;obtain⟨ct,cv,bc⟩:=bb.shape';rw [<- F.out]at bc;subst bc;have bd:=ab.fr a1;have q:=T.trans a1;clear ab bb F T c0 c1 c2 c3 D HG a1;go_wp2_with fail;go_loopw [9,10] (fun nv J wr=>∃ n h:Nat,1<=n/\k+n<=l.length/\nv=N n/\J=N h/\h<=1300000/\Hid (aT o (aD d) l=m++eu o (aD d) n h (l.drop (k+n)))/\Fr w1 wr) (fun nv _ _=>l.length - (intOf nv).toNat);case atStart=>exact⟨1,n0,ag _,by omega,rfl,rfl,by omega,b0.out,Fr.refl w1⟩
    case round=>
     obtain⟨n,h,cx,cy,rfl,rfl,V,G,y⟩:=hrel;have cz:IntKind.i64.wrap ((k:Int)+n)=(k:Int)+n:=ar _ (by omega);by_cases L:k+n<l.length
     · have b2:(k:Int)+n<l.length:=(by omega);obtain⟨b,bx,bz,J,c0,c1,c2,c3⟩:=gh (Y.fr (q.trans y)) (k+n) L;have K:=HB.out _ (aH L);have D:=ad (fun W=>ve d l[k+n] W K.1 K.2);have c4:=a6.out _ (aH L);have a3:Hid (h+aD d l[k+n]<=o->aT o (aD d) l=m++eu o (aD d) (n+1) (h+aD d l[k+n]) (l.drop (k+(n+1)))):=fun V=>(by rw [G.out,G5 o _ n h l (k+n) L V,mJ]);have a4:Hid (¬h+aD d l[k+n]<=o->aT o (aD d) l=(m++[n])++aT o (aD d) (l.drop (k+n))):=fun V=>(by rw [G.out,G6 o _ n h l (k+n) L V];simp);have F:Hid (aD d l[k+n]=(ff d l[k+n]).length):=rfl;generalize aD d l[k+n]=I at *;generalize l[k+n]=r2 at *;cases J;have j1:(0:Int)<=(k:Int)+n:=(by omega);have j2:((k:Int)+n).toNat=k+n:=(by omega);have c8:IntKind.i64.wrap ((h:Int)+I)=(h:Int)+I:=ar _ (by omega);by_cases bf:h+I<=o
       · have b3:(h:Int)+I<=o:=(by omega);have z:=ad (a3.out bf);clear a3 a4 G;go_wp2_with fail;refine(D.out _).mono ?_;rintro e w3 ⟨v3,rfl,M,A⟩;obtain⟨b5,b8,O⟩:=M.shape';rw [<- F.out]at O;subst O;have e0:=A.cell c0;have e1:=A.cell c1;have e2:=A.cell c2;have e3:=A.cell c3;clear M;go_wp2_with fail;refine(D.out _).mono ?_;rintro e w4 ⟨v4,rfl,bk,bA⟩;obtain⟨dc,dd,bm⟩:=bk.shape';rw [<- F.out]at bm;subst bm;clear bk;go_wp2_with fail;go_roundw;case rel=>exact⟨n+1,h+I,by omega,by omega,by go_num,by go_num,by omega,z.out,(y.trans A).trans bA⟩
         case measure=>simp [intOf];omega
       · have b3:¬(h:Int)+I<=o:=(by omega);have z:=ad (a4.out bf);clear a3 a4 G;go_wp2_with fail;refine(D.out _).mono ?_;rintro e w3 ⟨v3,rfl,M,A⟩;obtain⟨b5,b8,O⟩:=M.shape';rw [<- F.out]at O;subst O;clear M;have X:=y.trans A;have Q:=bd.fr X;go_wp2_with (at_builtin;refine aM eJ rfl (.tmp 58) (.tmp 60) 57 rfl Tryz.underlying57 w.heap.size rfl Q [n] _ _ _ rfl rfl rfl (by simp;omega) (q.trans X).size ?_);intro v' w5 R;go_wp2_with fail;go_roundw;case rel=>exact⟨k+n,m++[n],by omega,by go_num,by simp;omega,R.own,z.out,R.below Q (q.trans X) (ag _) (q.trans X).size⟩
         case measure=>simp [intOf];omega
     · have b2:¬(k:Int)+n<l.length:=(by omega);have bn:k+n=l.length:=(by omega);have z:Hid (aT o (aD d) l=(m++[n])++aT o (aD d) (l.drop (k+n))):=(by show _=_;rw [G.out,bn,fZ];simp [eu,aT]);clear bn G;have Q:=bd.fr y;go_wp2_with (at_builtin;refine aM eJ rfl (.tmp 58) (.tmp 60) 57 rfl Tryz.underlying57 w.heap.size rfl Q [n] _ _ _ rfl rfl rfl (by simp;omega) (q.trans y).size ?_);intro v' w5 R;go_wp2_with fail;go_roundw;case rel=>exact⟨k+n,m++[n],by omega,by go_num,by simp;omega,R.own,z.out,R.below Q (q.trans y) (ag _) (q.trans y).size⟩
       case measure=>simp [intOf];omega
  · obtain rfl:k=l.length:=(by omega);have di:¬((l.length:Int)<l.length):=(by omega);have z:Hid (aT o (aD d) l=m):=(by show _=_;rw [HG.out,fZ,aT,dm]);go_wp2_with fail;go_ret;exact⟨_,rfl,by rw [z.out];exact ab,T⟩
end Go.Proofs.YtdamnfpigajmoaaGreatDoor
