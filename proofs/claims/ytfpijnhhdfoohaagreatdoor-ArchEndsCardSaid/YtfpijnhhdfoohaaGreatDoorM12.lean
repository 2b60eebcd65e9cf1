/- Parts of the proof of ArchEnds: Q1 U0 Ck Cl U3 U9 E2 E3 Q2 E4 Q3 Q4 L3 L4 Ub U7 Cm Ch Cn. -/
import Derived.Test.YtfpijnhhdfoohaaGreatDoorM10
import Derived.Test.YtfpijnhhdfoohaaGreatDoorM03
import Derived.Test.YtfpijnhhdfoohaaGreatDoorM00
import Derived.Test.YtfpijnhhdfoohaaGreatDoorM11
import Derived.Test.YtfpijnhhdfoohaaGreatDoorM01
import Derived.Test.YtfpijnhhdfoohaaGreatDoorM06
import Derived.Test.YtfpijnhhdfoohaaGreatDoorM07
import Derived.Test.YtfpijnhhdfoohaaGreatDoorM27
set_option linter.unusedVariables false
set_option linter.unusedSectionVars false
set_option linter.unusedSimpArgs false
set_option maxHeartbeats 8000000
set_option maxRecDepth 100000
namespace Go.Fk
abbrev iGQb:=@Nat.succ_mul
abbrev nW:=@UInt64.toNat_lt
abbrev ru:=@Nat.le_add_right
abbrev vzQb:=@List.replicate_zero
abbrev zh:=@beq_eq_false_iff_ne
end Go.Fk
namespace Go.Proofs.YtfpijnhhdfoohaaGreatDoor
open Go.RowKit Go.Fk
def cg(r:aF):Nat:=16+r.source.length+r.text.length
def dD(r:aF):Bool:=decide (4000<r.source.length) || decide (4000<r.text.length)
def fZ(l:List aF):Bool:=decide (l.length<=20000) && (l.all fun r=>!dD r) && decide (bj cg l<=1048576)
abbrev lA(r:aF):Value:=.agg #[.int .u64 r.time.toNat,Fk.u8 r.level,S r.source,S r.text]
theorem LY(r:aF)(w:World):Calls Tryz.prog 56 #[lA r] w fun e q=>e=.returned (.bool (dD r))/\Fr w q:=by
 have h:Hid (dD r=(decide (4000<r.source.length) || decide (4000<r.text.length))):=rfl;by_cases m:4000<r.source.length;· have z:(4000:Int)<r.source.length:=(by omega);have d:Hid (dD r=true):=(by show _=_;rw [h.out,bt m];rfl);go_enter Tryz.func56, Tryz.ntmps56;go_wp2_with fail;go_ret;exact⟨by rw [d.out];rfl,(Fr.refl w).alloc _⟩
 · have z:¬(4000:Int)<r.source.length:=(by omega);by_cases o:4000<r.text.length;· have A:(4000:Int)<r.text.length:=(by omega);have d:Hid (dD r=true):=(by show _=_;rw [h.out,bt o];simp);go_enter Tryz.func56, Tryz.ntmps56;go_wp2_with fail;go_ret;exact⟨by rw [d.out];rfl,(Fr.refl w).alloc _⟩
   · have A:¬(4000:Int)<r.text.length:=(by omega);have d:Hid (dD r=false):=(by show _=_;rw [h.out,aX m,aX o];rfl);go_enter Tryz.func56, Tryz.ntmps56;go_wp2_with fail;go_ret;exact⟨by rw [d.out];rfl,(Fr.refl w).alloc _⟩
theorem R7(v:Value)(l:List aF)(w:World)(z:ai w eR v l)(M:l.length<=20000)(d:∀ r∈l,cg r<=8016) :
  Calls Tryz.prog 57 #[v] w fun e A=>e=.returned (N (bj cg l))/\Fr w A:=by
 obtain⟨a,O,rfl,Q,R,U⟩:=z.shape;have B:=ad (fun k=>zH cg 8016 (l.take k) (fun x D=>d x (jV D)));have F:=ad d;clear d;go_enter Tryz.func57, Tryz.ntmps57;go_wp2_with fail;go_loopw [3,8] (fun G h wr=>∃ k:Nat,k<=l.length/\h=N k/\G=N (bj cg (l.take k))/\Fr w wr) (fun _ h _=>l.length - (intOf h).toNat);case atStart=>exact⟨0,an _,rfl,rfl,Fr.refl w⟩
 case round=>
  obtain⟨k,I,rfl,rfl,m⟩:=hrel;have o:=B.out k;rw [aG,gx I]at o;have V:bj cg (l.take k)<=20000*8016:=az o (bJ (by omega) (am _));clear o;by_cases q:k<l.length;· obtain⟨b,X,Y,J,Z,c1,c2,c3⟩:=pA (z.fr m) k q;have K:=ad (vN cg l k q);have L:cg l[k]<=8016:=F.out _ (bX q);generalize bj cg (l.take k)=ac at *;generalize l[k]=r at *;cases J;unfold cg at L;have i1:(0:Int)<=k:=(by omega);have i2:(k:Int)<l.length:=(by omega);go_wp2_with fail;exact⟨⟨k+1,by omega,by go_num,by rw [K.out];unfold cg;go_num,m.alloc _⟩,by simp [intOf];omega⟩
  · obtain rfl:k=l.length:=(by omega);have ap:¬((l.length:Int)<l.length):=(by omega);rw [dO]at *;go_wp2_with fail;go_ret;exact⟨rfl,m⟩
theorem MP(v:Value)(l:List aF)(w:World)(G:ai w eR v l) :
  Calls Tryz.prog 93 #[v,.func (.func 56) #[] #[]] w fun e I=>∃ x:Int,e=.returned (.int .i64 x)/\Hid (decide (0<=x)=l.any dD)/\Fr w I:=by
 obtain⟨a,Q,rfl,R,J,U⟩:=G.shape;unfold maxLen at J;have K:=ad LY;go_enter Tryz.func93, Tryz.ntmps93;go_wp2_with fail;go_loopw [8] (fun q wr=>∃ k:Nat,k<=l.length/\q=N k/\Hid ((l.take k).any dD=false)/\Fr w wr) (fun q _=>l.length - (intOf q).toNat);case atStart=>exact⟨0,an _,rfl,rfl,Fr.refl w⟩
 case round=>
  obtain⟨k,V,rfl,z,m⟩:=hrel;by_cases A:k<l.length
  · obtain⟨b,X,Y,L,Z,c1,c2,c3⟩:=pA (G.fr m) k A;have B:Hid ((l.take (k+1)).any dD=dD l[k]):=(by show _=_;rw [gy A,List.any_append,z.out];simp);have D:Hid (dD l[k]=true->l.any dD=true):=fun h=>List.any_eq_true.2 ⟨_,bX A,h⟩;generalize l[k]=r at *;cases L;have o:=ad (K.out r);have i1:(0:Int)<=k:=(by omega);have i2:(k:Int)<l.length:=(by omega);cases d:dD r;· rw [d]at o B D;clear d;go_wp2_with fail;refine(o.out _).mono ?_;rintro e M ⟨rfl,F⟩;go_wp2_with fail;exact⟨⟨k+1,by omega,by go_num,B.out,m.trans F⟩,by simp [intOf];omega⟩
    · have O:=ad (D.out d);rw [d]at o B;clear d D;go_wp2_with fail;refine(o.out _).mono ?_;rintro e M ⟨rfl,F⟩;go_wp2_with fail;go_ret;exact⟨_,rfl,by show _=_;rw [O.out];simp,m.trans F⟩
  · obtain rfl:k=l.length:=(by omega);have ak:¬((l.length:Int)<l.length):=(by omega);rw [dO]at z;go_wp2_with fail;go_ret;exact⟨_,rfl,by show _=_;rw [z.out];rfl,m⟩
theorem Nk(v:Value)(l:List aF)(w:World)(d:ai w eR v l) :
  Calls Tryz.prog 55 #[v,.func (.func 56) #[] #[]] w fun e h=>e=.returned (.bool (l.any dD))/\Fr w h:=by
 obtain⟨a,A,m,B,D,F⟩:=d.shape;have o:=ad (MP v l w d);subst m;go_enter Tryz.func55, Tryz.ntmps55;go_wp2_with fail;refine o.out.mono ?_;rintro e G ⟨x,rfl,q,z⟩;go_wp2_with fail;go_ret;exact⟨by rw [<- q.out];rfl,z⟩
theorem zb(v:Value)(l:List aF)(w:World)(q:ai w eR v l) :
  Calls Tryz.prog 29 #[v] w fun e O=>e=.returned (.int .i64 (if fZ l then 0 else 6))/\Fr w O:=by
 obtain⟨a,ac,Q,aj,U,ak⟩:=q.shape;have A:=ad (fun W h=>Nk v l W h);have G:=ad (fun W h=>R7 v l W h);have d:Hid ((if fZ l then(0:Int)else 6)=if(decide (l.length<=20000) && (l.all fun r=>!dD r) && decide (bj cg l<=1048576))=true then 0 else 6):=rfl;have B:Hid ((l.all fun r=>!dD r) = !(l.any dD)):=by show _=_;rw [List.not_any_eq_all_not]
 generalize (if fZ l then(0:Int)else 6)=R at *;rw [B.out]at d;subst Q;unfold maxLen at U;by_cases D:l.length<=20000
 · have V:¬(20000:Int)<l.length:=(by omega);rw [bt D]at d;cases z:l.any dD
   · have I:∀ r∈l,cg r<=8016:=by
       intro r X;have J:dD r=false:=by
        cases Y:dD r;· rfl
        · rw [List.any_eq_true.2 ⟨r,X,Y⟩]at z;cases z
       unfold dD at J;simp only [Bool.or_eq_false_iff,vj]at J;unfold cg;omega
     rw [z]at d A;have K:=ad (fun W h=>G.out W h D I);clear B G I z;by_cases L:bj cg l<=1048576;· rw [bt L]at d;have Z:¬(1048576:Int)<bj cg l:=(by omega);have m:Hid (R=0):=(by show _=_;rw [d.out];rfl);generalize bj cg l=wt at *;go_enter Tryz.func29, Tryz.ntmps29;go_wp2_with fail;refine(A.out _ q).mono ?_;rintro e M ⟨rfl,o⟩;go_wp2_with fail;refine(K.out _ (q.fr o)).mono ?_;rintro e w2 ⟨rfl,F⟩;go_wp2_with fail;go_ret;exact⟨by rw [m.out];rfl,o.trans F⟩
     · rw [aX L]at d;have Z:(1048576:Int)<bj cg l:=(by omega);have m:Hid (R=6):=(by show _=_;rw [d.out];rfl);generalize bj cg l=wt at *;go_enter Tryz.func29, Tryz.ntmps29;go_wp2_with fail;refine(A.out _ q).mono ?_;rintro e M ⟨rfl,o⟩;go_wp2_with fail;refine(K.out _ (q.fr o)).mono ?_;rintro e w2 ⟨rfl,F⟩;go_wp2_with fail;go_ret;exact⟨by rw [m.out];rfl,o.trans F⟩
   · rw [z]at d A;have m:Hid (R=6):=(by show _=_;rw [d.out];rfl);clear B z;go_enter Tryz.func29, Tryz.ntmps29;go_wp2_with fail;refine(A.out _ q).mono ?_;rintro e M ⟨rfl,o⟩;go_wp2_with fail;go_ret;exact⟨by rw [m.out];rfl,o⟩
 · have V:(20000:Int)<l.length:=(by omega);rw [aX D]at d;have m:Hid (R=6):=(by show _=_;rw [d.out];rfl);go_enter Tryz.func29, Tryz.ntmps29;go_wp2_with fail;go_ret;exact⟨by rw [m.out];rfl,Fr.refl w⟩
theorem Rh(v:Value)(l:List aF)(w:World)(K:ai w eR v l) :
  Calls Tryz.prog 8 #[v] w fun e Y=>e=.returned (.int .i64 (if fZ l then 0 else 6))/\Fr w Y:=by
 obtain⟨a,ap,F,av,Z,a0⟩:=K.shape;have m:Hid ((if fZ l then(0:Int)else 6)=if(decide (l.length<=20000) && (l.all fun r=>!dD r) && decide (bj cg l<=1048576))=true then 0 else 6):=rfl;generalize (if fZ l then(0:Int)else 6)=R at *;subst F;unfold maxLen at Z;by_cases L:l.length<=20000
 · have aa:¬(20000:Int)<l.length:=(by omega);rw [bt L]at m;go_enter Tryz.func8, Tryz.ntmps8;go_wp2_with fail;go_loopw [3,4] (fun sv G wr=>∃ k:Nat,k<=l.length/\G=N k/\sv=N (bj cg (l.take k))/\Hid (∀ r∈l.take k,dD r=false)/\bj cg (l.take k)<=k*8016/\Fr w wr) (fun _ G _=>l.length - (intOf G).toNat);case atStart=>exact⟨0,an _,rfl,rfl,fun r d=>(by cases d),an _,Fr.refl w⟩
   case round=>
    obtain⟨k,hk,rfl,rfl,M,a2,q⟩:=hrel;by_cases D:k<l.length
    · obtain⟨b,a3,a4,F,c0,c1,c2,c3⟩:=pA (K.fr q) k D;have O:=ad (vN cg l k D);have Q:Hid (dD l[k]=false->∀ r∈l.take (k+1),dD r=false):=by
       intro h r d;rw [gy D]at d;rcases iZ.1 d with d | d;· exact M.out r d
       · rw [lT]at d;rw [d];exact h
      have A:Hid (dD l[k]=true->R=6):=(by intro h;rw [m.out,ae];have:(l.all fun r=>!dD r)=false:=(by rw [List.all_eq_false];exact⟨_,bX D,by rw [h];simp⟩);rw [this];simp);have I:Hid (dD l[k]=(decide (4000<l[k].source.length) || decide (4000<l[k].text.length))):=rfl;have U:Hid (cg l[k]=16+l[k].source.length+l[k].text.length):=rfl;generalize bj cg (l.take k)=z at *;generalize l[k]=r at *;cases F;have i1:(0:Int)<=k:=(by omega);have i2:(k:Int)<l.length:=(by omega);by_cases V:4000<r.source.length;· have ac:(4000:Int)<r.source.length:=(by omega);have o:Hid (R=6):=A.out (by rw [I.out,bt V];rfl);clear A;go_wp2_with fail;go_ret;exact⟨by rw [o.out];rfl,q⟩
      · have ac:¬(4000:Int)<r.source.length:=(by omega);by_cases B:4000<r.text.length;· have J:(4000:Int)<r.text.length:=(by omega);have o:Hid (R=6):=A.out (by rw [I.out,bt B];simp);clear A;go_wp2_with fail;go_ret;exact⟨by rw [o.out];rfl,q⟩
        · have J:¬(4000:Int)<r.text.length:=(by omega);have aj:=ad (Q.out (by rw [I.out,aX V,aX B];rfl));clear Q A;have bb:IntKind.i64.wrap ((z:Int)+16)=(z:Int)+16:=aw _ (by omega);have bc:IntKind.i64.wrap ((z:Int)+16+r.source.length)=(z:Int)+16+r.source.length:=aw _ (by omega);have bd:IntKind.i64.wrap ((z:Int)+16+r.source.length+r.text.length)=(z:Int)+16+r.source.length+r.text.length:=aw _ (by omega);go_upto_region 9 with fail;go_quiet (fail);go_wp2_with fail;go_roundw;case rel=>exact⟨k+1,by omega,by go_num,by rw [O.out,U.out];go_num,aj,by rw [O.out,U.out];omega,q.drewN _⟩
          case measure=>simp [intOf];omega
    · obtain rfl:k=l.length:=(by omega);have bf:¬((l.length:Int)<l.length):=(by omega);rw [dO]at *;have X:(l.all fun r=>!dD r)=true:=(by rw [og];intro r d;rw [M.out r d];rfl);rw [X]at m;clear X;by_cases B:bj cg l<=1048576;· rw [bt B]at m;have J:¬(1048576:Int)<bj cg l:=(by omega);have o:Hid (R=0):=(by show _=_;rw [m.out];rfl);generalize bj cg l=wt at *;go_wp2_with fail;go_ret;exact⟨by rw [o.out];rfl,q⟩
      · rw [aX B]at m;have J:(1048576:Int)<bj cg l:=(by omega);have o:Hid (R=6):=(by show _=_;rw [m.out];rfl);generalize bj cg l=wt at *;go_wp2_with fail;go_ret;exact⟨by rw [o.out];rfl,q⟩
 · have aa:(20000:Int)<l.length:=(by omega);rw [aX L]at m;have o:Hid (R=6):=(by show _=_;rw [m.out];rfl);go_enter Tryz.func8, Tryz.ntmps8;go_wp2_with fail;go_ret;exact⟨by rw [o.out];rfl,Fr.refl w⟩
def kd(d:Bool)(b:List UInt8)(s:Cs):Nat × Cs:=if d=true then s.num b else(0,s)
def jF(d:Bool)(b:List UInt8)(s:Cs):Nat × Cs:=if d=true then(kd d b s).2.byte b else(0,(kd d b s).2)
def fG(d:Bool)(b:List UInt8)(s:Cs):List UInt8 × Cs:=(jF d b s).2.text b 4000
def dh(d:Bool)(b:List UInt8)(s:Cs):List UInt8 × Cs:=(fG d b s).2.text b 4000
def fH(d:Bool)(b:List UInt8)(s:Cs):aF:=⟨UInt64.ofNat (kd d b s).1,UInt8.ofNat (jF d b s).1,(fG d b s).1,(dh d b s).1⟩
def iN(d:Bool)(b:List UInt8):Nat->Cs->List aF->List aF × Nat
 | 0,s,e=>(e,s.er)
 | f+1,s,e=>
  if b.length<=s.at_ then(e,0)
  else if(dh d b s).2.er=0 then iN d b f (dh d b s).2 (e++[fH d b s])
  else([],(dh d b s).2.er)
def dS(d:Bool)(b:List UInt8):List aF × Nat:=iN d b b.length ⟨0,0⟩ []
theorem JA(e:Bool)(b:List UInt8)(f:Nat)(s:Cs)(d:List aF)(h:b.length<=s.at_)(m:s.er=0):iN e b f s d=(d,0):=by
 cases f with
 | zero=>rw [iN,m]
 | succ f=>rw [iN,ag h]
theorem J8(d:Bool)(b:List UInt8)(f:Nat)(s:Cs)(e:List aF)(h:s.at_<b.length)(m:(dh d b s).2.er=0):iN d b (f+1) s e=iN d b f (dh d b s).2 (e++[fH d b s]):=by
 rw [iN,ae (by omega),ag m]
theorem JB(d:Bool)(b:List UInt8)(f:Nat)(s:Cs)(e:List aF)(h:s.at_<b.length)(m:¬(dh d b s).2.er=0):iN d b (f+1) s e=([],(dh d b s).2.er):=by
 rw [iN,ae (by omega),ae m]
theorem Cs.step_er(s:Cs)(r:Nat × Nat × Nat)(h:(s.step r).er=0):s.er=0/\r.2.2=0/\(s.step r).at_=s.at_+r.2.1:=by
 unfold Cs.step at *;by_cases d:s.er=0
 · rw [ag d]at h ⊢;by_cases e:r.2.2=0;· rw [ag e];exact⟨d,e,rfl⟩
   · rw [ae e]at h;exact absurd h e
 · rw [ae d]at h;exact absurd h d
theorem Cs.text_up(s:Cs)(l:List UInt8)(d:Nat)(h:(s.text l d).2.er=0):s.er=0/\s.at_<(s.text l d).2.at_/\(s.text l d).1.length<=d:=by
 obtain⟨e,m,o⟩:=Cs.step_er s _ h;have q:=tN d (l.drop s.at_) m;refine⟨e,?_,?_⟩;· show s.at_<(s.step _).at_;rw [o];show s.at_<s.at_+(ed d (l.drop s.at_)).2.1;omega
 · show(if s.er=0 then _ else _:List UInt8).length<=d;rw [ag e];exact q.2.2
theorem Cs.num_up(s:Cs)(l:List UInt8)(h:(s.num l).2.er=0):s.er=0/\s.at_<=(s.num l).2.at_:=by
 obtain⟨d,m,e⟩:=Cs.step_er s _ h;exact⟨d,by show s.at_<=(s.step _).at_;rw [e];exact ru _ _⟩
theorem Cs.byte_up(s:Cs)(l:List UInt8)(h:(s.byte l).2.er=0):s.er=0/\s.at_<=(s.byte l).2.at_:=by
 have e:(s.take l 1).2.er=0:=h;show s.er=0/\s.at_<=(s.take l 1).2.at_;unfold Cs.take at *;by_cases d:s.er=0
 · rw [ag d]at e ⊢;refine⟨d,?_⟩;split;· exact am _
   · exact ru _ _
 · rw [ae d]at e;exact absurd e d
theorem Bj(d:Bool)(b:List UInt8)(s:Cs)(h:(dh d b s).2.er=0):s.er=0/\s.at_<(dh d b s).2.at_/\(fG d b s).1.length<=4000/\(dh d b s).1.length<=4000:=by
 obtain⟨m,o,q⟩:=Cs.text_up _ _ _ h;obtain⟨e,z,A⟩:=Cs.text_up _ _ _ m;have I:(fG d b s).2.at_<(dh d b s).2.at_:=o;have J:(jF d b s).2.at_<(fG d b s).2.at_:=z;have key:s.er=0/\s.at_<=(jF d b s).2.at_:=by
  cases d;· exact⟨e,am _⟩
  · obtain⟨B,D⟩:=Cs.byte_up _ _ e;obtain⟨F,G⟩:=Cs.num_up _ _ B;exact⟨F,az G D⟩
 exact⟨key.1,by omega,A,q⟩
theorem JK(d:Bool)(b:List UInt8)(s:Cs)(h:s.at_<=b.length):(dh d b s).2.at_<=b.length:=by
 refine Cs.text_le _ _ _ (Cs.text_le _ _ _ ?_);cases d;· exact h
 · exact Cs.take_le _ _ _ (Cs.num_le _ _ h)
def be(b:List UInt8):List UInt8 × Nat:=
 if (bh b).2 = 0 then
  (if(bh b).1=1 then(if bP b=0 then(if(aS b).length<5 then([],1)else((aS b).drop 5,0))else([],bP b))else([],4))
 else([],(bh b).2)
def el(x:List UInt8):Nat × Cs:=(⟨0,0⟩:Cs).int x 32768
def gH(x:List UInt8):Nat × Cs:=(el x).2.byte x
def pF(x:List UInt8):Cs:=if 1<(gH x).1 then(gH x).2.fail 2 else(gH x).2
def gG(x:List UInt8):Nat × Cs:=(pF x).int x 20000
def bZ(x:List UInt8):Nat × Cs:=(gG x).2.int x (gG x).1
def jh(x:List UInt8):Nat:=if(bZ x).2.er=0 then(if 16<=(el x).1/\(el x).1<=32768 then 0 else 9)else(bZ x).2.er
def aR(x:List UInt8):Nat->Cs
 | 0=>(bZ x).2
 | i+1=>((aR x i).take x (aT (x.drop (aR x i).at_)).2.1).2
def eW(x:List UInt8)(i:Nat):List aF × Nat:=
 if (aT (x.drop (aR x i).at_)).2.2 = 0 then
  (if (dS true (aT (x.drop (aR x i).at_)).1).2 = 0 then (if (dS true (aT (x.drop (aR x i).at_)).1).1 = [] then ([], 2) else dS true (aT (x.drop (aR x i).at_)).1)
   else ([], (dS true (aT (x.drop (aR x i).at_)).1).2))
 else([],(aT (x.drop (aR x i).at_)).2.2)
def kN(x:List UInt8):Nat->Nat->List aF->List aF × Nat
 | 0,_,d=>(d,0)
 | k+1,i,d=>if(eW x i).2=0 then kN x k (i+1) (d++(eW x i).1)else([],(eW x i).2)
def lC(x:List UInt8):List aF × Nat:=kN x (bZ x).1 0 []
def jH(x:List UInt8):List aF × Nat:=
 if (lC x).2 = 0 then
  (if 0<x.length - (aR x (bZ x).1).at_\/(lC x).1.length≠(gG x).1 then([],2)else if fZ (lC x).1=true then((lC x).1,0)else([],6))
 else([],(lC x).2)
def ib(b:List UInt8):Nat:=if(be b).2=0 then(if jh (be b).1=0 then(jH (be b).1).2 else jh (be b).1)else(be b).2
end Go.Proofs.YtfpijnhhdfoohaaGreatDoor
namespace Go.Fk
open Go.RowKit
section
variable {P:Program} {α:Type} {E:au P α} {w:World} {base:Nat}
theorem Jb(h:E.k=1)(B G I:TypeId)(Z:P.underlying B=some (.slice E.e))(g d m n A J c:Nat)(y:Value)(z l:List α)
  (hown:Ow w base E (.slice (some ⟨g,0,none⟩) n A) z) (hsee:ai w E y l) (hc:c=min m l.length) (hp:0<c) (hfit:d+m=z.length) :
  ∃ D,(Builtin.copy_ #[B,G] I #[.slice (some ⟨g,d,none⟩) m J,y]).run P w=.ok (goInt c) D/\Ow D base E (.slice (some ⟨g,0,none⟩) n A) (z.take d++(l.take c++z.drop (d+c)))/\ah (fun k=>k=g) w D:=by
 obtain⟨i,hi,hz,ab,bd⟩:=nk E.info;have ac:(P.info? E.e).map (·.size)=some 1:=by simp [hi,ab,h]
 have hl:l≠[]:=by intro e;subst e;simp at hc;omega
 obtain⟨ak,hb,q,K,c1,c2,L,M⟩:=hown.parts;obtain⟨b,a0,a1,a2,_,_,a3⟩:=hsee.cells hl;rw [h,dq]at L M;have O:(l.take c).length=c:=by rw [aG];omega
 have o:=E.length_cells (l.take c);rw [h,dq,O]at o;have a4:q.toList.length=A:=by simpa using L
 have Q := run_copy_row (P := P) w B G I E.e g d m J ⟨b, a0, none⟩ l.length a1 q E.e (E.cells (l.take c)) Z ac K (by rw [o, hc]; exact Nat.min_comm _ _) (by
  intro j u R;rw [ny];have a5 := (r9.1 R).1;rw [o] at a5;have := E.cells_at (l.take c) j (by omega) 0 (by omega);rw [h, dq, et, R, oV] at this;have U := a3 j (by omega) 0 (by omega) u this.symm;rw [h, dq, et] at U
  exact U) (by rw [o]; omega) (E.cells_mem _)
 rw [o]at Q;rw [a2];have F:(z.take d++(l.take c++z.drop (d+c))).length=z.length:=by rw [aD,aD,aG,aU,O];omega
 refine⟨_,Q,⟨E.length_cells _,.inr ⟨g,A,_,by rw [F,ak],hb,cP w g _ _ _ _ K,by rw [F];exact c1,c2,?_,?_⟩⟩,⟨rfl,rfl,rfl,by simp [World.setRow],fun k _ hn=>setRow_other w g k _ hn⟩⟩;· rw [h,dq];simp only [qg,aD,aG,aU,o,a4];omega
 · rw [h,dq,F,E.cells_append,E.cells_append];have V:(E.cells (z.take d)).length=d:=(by rw [E.length_cells,h,dq,aG];omega);have e1:E.cells (z.take d)=(E.cells z).take d:=(by have:=E.cells_append (z.take d) (z.drop d);rw [j9]at this;rw [this,zi (fO V.symm),eC (fO V)]);have X:(E.cells (z.take (d+c))).length=d+c:=(by rw [E.length_cells,h,dq,aG];omega);have e2:E.cells (z.drop (d+c))=(E.cells z).drop (d+c):=(by have:=E.cells_append (z.take (d+c)) (z.drop (d+c));rw [j9]at this;rw [this,List.drop_append_of_le_length (fO X.symm),tx (fO X),kI]);rw [e1,e2,<- M];have Y:(q.toList.take d).length=d:=(by rw [aG];omega);have f2:(q.toList.take z.length).take d=q.toList.take d:=(by rw [tq,gx (by omega)]);have f3:(q.toList.take z.length).drop (d+c)=(q.toList.drop (d+c)).take (z.length - (d+c)):=(by rw [tw]);rw [f2,f3,mG,Al _ _ _ _ (by rw [Y,o];omega),Y,o,show z.length - d - c=z.length - (d+c) by omega]
theorem Ja(m:E.k=1)(t:TypeId)(e:P.underlying t=some (.slice E.e)){n d g:Nat}{l:List α}(h:Ow w base E (.slice (some ⟨g,0,none⟩) n d) l)(i:Nat)(z:i<l.length) :
  (∀ W,(Instr.slice t (.slice (some ⟨g,0,none⟩) n d) (some (.int .i64 (i:Int))) none none).run P W=.ok (.slice (some ⟨g,i,none⟩) (n - i) (d - i)) W):=by
 obtain⟨A,_,_,_,B,D,_⟩:=h.parts;have o:P.underlying t=some (.slice (P.elem t)):=by simp [Program.elem,e]
 have q:P.elem t=E.e:=by simp [Program.elem,e]
 intro W;rw [run_slice_l W t _ _ _ o .i64 _ (by omega) (by omega),q,pr];simp [Result.andThen,sliced,m,ny,show d≠i by omega]
end
theorem J1{α:Type}(x z:α)(k n c:Nat)(h:n<=k)(d:c<=n)(m:n+c<=k):(List.replicate n x++List.replicate (k - n) z).take n++(((List.replicate n x++List.replicate (k - n) z).take n).take c++(List.replicate n x++List.replicate (k - n) z).drop (n+c))=List.replicate (n+c) x++List.replicate (k - (n+c)) z:=by
  have e:(List.replicate n x++List.replicate (k - n) z).take n=List.replicate n x:=(by rw [zi (by simp),eC (by simp)]);rw [e,List.take_replicate,gx d,List.drop_append,jX,tx (by simp),kI,List.drop_replicate,<- mG,List.replicate_append_replicate];congr 2;omega
end Go.Fk
namespace Go.Proofs.YtfpijnhhdfoohaaGreatDoor
open Go.RowKit Go.Fk
theorem Q0(a b:Nat)(d:a<18446744073709551616)(e:b<18446744073709551616):bits .and .u64 (a:Int) (b:Int)=((a &&& b:Nat):Int):=by
 have h:a &&& b<2 ^ 64:=vx _ (by omega);show IntKind.u64.wrap ((BitVec.ofInt 64 (a:Int) &&& BitVec.ofInt 64 (b:Int)).toNat:Int)=_;rw [tB,ek 64 a (by omega),ek 64 b (by omega)];exact eu _ (by omega)
theorem L3(k:Nat)(h:k<=1000000)(w:World):Calls Tryz.prog 280 #[.int .u64 1,.int .u64 (k:Int)] w fun e d=>e=.returned (.tuple #[.int .u64 0,.int .u64 (k:Int)])/\w=d:=by
 have m:bits .and .u64 1 4294967295=1:=by decide +kernel
 have o:bits .and .u64 0 4294967295=0:=by decide +kernel
 have q:bits .and .u64 (k:Int) 4294967295=(k:Int):=by rw [show(4294967295:Int)=((4294967295:Nat):Int)from rfl,Q0 _ _ (by omega) (by omega),show(4294967295:Nat)=2 ^ 32 - 1 from rfl,Fc,oU (by omega)]
 have z:(k:Int) / 4294967296=0:=by omega
 have A:IntKind.u64.wrap (k:Int)=(k:Int):=eu _ (by omega);have B:IntKind.u64.wrap 0=0:=by decide
 have D:IntKind.u64.wrap 1=1:=by decide
 go_enter Tryz.func280, Tryz.ntmps280;go_wp2_with fail;go_ret2;exact⟨rfl,rfl⟩
theorem Lw(k:Nat)(d:k<=1000000)(w:World):Calls Tryz.prog 260 #[.int .u64 1,.int .u64 (k:Int)] w fun e h=>e=.returned (.tuple #[.int .u64 0,.int .u64 (k:Int)])/\w=h:=by
 have m:=ad (L3 k d w);have o:IntKind.u64.wrap (k:Int)=(k:Int):=eu _ (by omega);have q:IntKind.u64.wrap 0=0:=by decide
 have z:IntKind.u64.wrap 1=1:=by decide
 go_enter Tryz.func260, Tryz.ntmps260;go_wp2_with fail;refine(m.out).mono ?_;rintro e A ⟨rfl,rfl⟩;go_wp2_with fail;go_ret2;exact⟨rfl,rfl⟩
theorem Ra(x:UInt8)(k:Nat)(hk:k<=1000000)(v:Value)(w:World)(A:ai w eB v [x]) :
  Calls Tryz.prog 236 #[v,N k] w fun e K=>∃ u,e=.returned u/\Ow K w.heap.size eB u (List.replicate k x)/\Fr w K:=by
 have HM:=ad (Lw k hk w);have q:=oE eB rfl rfl 22 Tryz.underlying22 .i64 .i64 k (by omega) w;have B:=pL (base:=w.heap.size) eB rfl rfl k (by omega) w (am _);have z:Fr w (w.alloc (.cells (madeCells #[eB.z] k) eB.e)):=(Fr.refl w).alloc _;have L:=A.fr z;obtain⟨a0,ba,rfl,_⟩:=A.shape;have k1:¬(k:Int)<0:=by omega
 have d2:IntKind.u64.wrap (k:Int)=(k:Int):=eu _ (by omega);have d3:IntKind.i64.wrap (k:Int)=(k:Int):=aw _ (by omega);have d4:IntKind.u64.wrap 1=1:=by decide
 clear A;rw [show(eB:au Tryz.prog UInt8).e=5 from rfl]at *;generalize madeCells #[eB.z] k=D at *;go_enter Tryz.func236, Tryz.ntmps236;go_wp2_with fail;refine(HM.out).mono ?_;rintro e w1 ⟨rfl,rfl⟩;have k3:¬(9223372036854775807:Int)<k:=by omega
 rcases jU k with rfl | hp
 · have bl:(Instr.makeSlice 22 (.int .i64 0) (.int .i64 0)).run Tryz.prog w=.ok (.slice (some ⟨w.heap.size,0,none⟩) 0 0) (w.alloc (.cells D 5)):=q;clear q;go_wp2_with (refine wpList_copy_nothing rfl (.tmp 31) (.tmp 32) 22 22 rfl 5 Tryz.underlying22 (by kernel_rfl) _ _ _ _ _ _ rfl rfl rfl ?_);go_wp2_with fail;go_loopw [8] (fun o wr=>o=N 0/\wr=w.alloc (.cells D 5)) (fun _ _=>0);case atStart=>exact⟨rfl,rfl⟩
   case round=>obtain⟨rfl,rfl⟩:=hrel;go_wp2_with fail;go_ret;exact⟨_,rfl,B,z⟩
 · have ap:(1:Nat)<=k:=hp;have M:(([x]:List UInt8)++(List.replicate k eB.zero).drop 1)=List.replicate 1 x++List.replicate (k - 1) eB.zero:=(by rw [List.drop_replicate];rfl);have av:=ad M;have bm:w.heap.size<(w.alloc (.cells D 5)).heap.size:=(by simp);have O:=ad B;have Q:=ad z;clear M B z;go_wp2_with (refine F8 rfl rfl (.tmp 31) (.tmp 32) 22 22 rfl Tryz.underlying22 _ _ _ _ rfl rfl O.out L (by simp;omega) ?_);intro F d R;have U:Ow F w.heap.size eB (.slice (some ⟨w.heap.size,0,none⟩) k k) (List.replicate 1 x++List.replicate (k - 1) eB.zero):=(by have h1:=d;rw [show List.replicate 1 x++List.replicate (k - 1) eB.zero=x::List.replicate (k - 1) eB.zero from rfl];simpa using h1);have G:Fr w F:=((Q.out.chg (fun b=>b=w.heap.size)).trans R fun i V h=>by simp [Value.ownBlock]at h;omega).fr (fun i V h=>by omega);clear d O av q L Q R;go_wp2_with fail;generalize hg:w.heap.size=g at *;have bs:g<=F.heap.size:=(by rw [<- hg];exact G.size);go_loopw [8] (fun o wr=>∃ n:Nat,1<=n/\n<=k/\o=N n/\Ow wr g eB (.slice (some ⟨g,0,none⟩) k k) (List.replicate n x++List.replicate (k - n) eB.zero)/\Fr w wr) (fun o _=>k - (intOf o).toNat);case atStart=>exact⟨1,am _,ap,rfl,U,G⟩
   case round=>
    clear U G;obtain⟨n,bu,X,rfl,d,Y⟩:=hrel;by_cases a3:n<k
    · have m:(List.replicate n x++List.replicate (k - n) eB.zero).length=k:=(by simp;omega);have bv:=Ja (P:=Tryz.prog) (E:=eB) rfl 22 Tryz.underlying22 d n (by rw [m];exact a3);obtain⟨bx,Z⟩:=gD eB 22 Tryz.underlying22 d.see n (by rw [m];exact X);have I:=J1 x eB.zero k n (min (k - n) n) X (by omega) (by omega);have a4:=ad I;have J:((List.replicate n x++List.replicate (k - n) eB.zero).take n).length=n:=(by rw [aG,m];omega);have a5:=ad J;have a6:=ad m;obtain⟨w4,b0,aa,ab⟩:=Jb (P:=Tryz.prog) (E:=eB) (w:=wr.drew) rfl 22 22 3 Tryz.underlying22 g n (k - n) k k (k - n) (min (k - n) n) _ _ _ d.drew Z.drew (by rw [J]) (by omega) (by rw [m];omega);rw [I]at aa;have i1:(n:Int)<k:=(by omega);have q:n+min (k - n) n<=k:=(by omega);have b2:0<min (k - n) n:=(by omega);have a7:Fr w w4:=((Y.drew.chg (fun b=>b=g)).trans ab fun _ _ h=>h).fr (fun i V h=>by omega);clear I d Z J m a4 a5 a6 ab;generalize min (k - n) n=c at *;have b3:IntKind.i64.wrap ((n:Int)+c)=(n:Int)+c:=aw _ (by omega);go_upto_region 9 with fail;go_region;all_goals go_wp2_with fail
      all_goals go_roundw
      all_goals first
       | (simp [intOf];omega)
       | exact⟨n+c,by omega,by omega,by go_num,aa,a7⟩
    · obtain rfl:n=k:=(by omega);have b4:¬((n:Int)<n):=(by omega);rw [gu,vzQb,gq]at d;go_wp2_with fail;go_ret;exact⟨_,rfl,d,Y⟩
end Go.Proofs.YtfpijnhhdfoohaaGreatDoor
namespace Go.Proofs.YtfpijnhhdfoohaaGreatDoor
open Go.RowKit Go.Fk
def eQ:au Tryz.prog Nat:=⟨38,1,8,0,.int .u64 0,fun n=>[.int .u64 (n:Int)],by kernel_rfl,by decide,by decide,by simp [Value.cells],fun _=>rfl,by intro x u d;simp at d;subst d;rfl⟩
theorem zC(a b:Nat)(d:a<18446744073709551616)(e:b<18446744073709551616):bits .xor .u64 (a:Int) (b:Int)=((a ^^^ b:Nat):Int):=by
 have h:a ^^^ b<2 ^ 64:=jz (by omega) (by omega);show IntKind.u64.wrap ((BitVec.ofInt 64 (a:Int) ^^^ BitVec.ofInt 64 (b:Int)).toNat:Int)=_;rw [vH,ek 64 a (by omega),ek 64 b (by omega)];exact eu _ (by omega)
theorem QH(z:Nat)(q:z<18446744073709551616)(w:World):Calls Tryz.prog 235 #[.int .u64 (z:Int)] w fun e I=>e=.returned (.int .u64 (iI z:Int))/\w=I:=by
 have D:=uU z q;have o:Hid (iI z=if z % 2=1 then 18446744073709551615 - z / 2 else z / 2):=rfl;have m:(z:Int) / 2=((z / 2:Nat):Int):=by simp
 have F:z / 2<9223372036854775808:=by omega
 have A:z / 2 ^^^ 18446744073709551615=18446744073709551615 - z / 2:=zD 64 (z / 2) (by omega);generalize iI z=Q at *;by_cases h:z % 2=1;· rw [h]at D;rw [ag h]at o;have J:IntKind.u64.wrap (-1)=18446744073709551615:=(by decide);have d:bits .xor .u64 ((z / 2:Nat):Int) 18446744073709551615=((18446744073709551615 - z / 2:Nat):Int):=(by rw [show(18446744073709551615:Int)=((18446744073709551615:Nat):Int)from rfl,zC _ _ (by omega) (by omega),A]);rw [<- m]at d;have B:=ad d;clear q F A h m d;go_enter Tryz.func235, Tryz.ntmps235;go_wp2_with fail;go_ret;rw [o.out,<- B.out];exact⟨rfl,rfl⟩
 · have G:z % 2=0:=(by omega);rw [G]at D;rw [ae h]at o;have J:IntKind.u64.wrap 0=0:=(by decide);have d:bits .xor .u64 ((z / 2:Nat):Int) 0=((z / 2:Nat):Int):=(by rw [show(0:Int)=((0:Nat):Int)from rfl,zC _ _ (by omega) (by omega),th]);rw [<- m]at d;have B:=ad d;have K:=ad m;clear q F A h G m;go_enter Tryz.func235, Tryz.ntmps235;go_wp2_with fail;go_ret;rw [o.out];exact⟨by rw [<- K.out];first | rfl | (rw [B.out];rfl),rfl⟩
theorem ar.cbox{w:World}{B base n d:Nat}{T:TypeId}{l:List UInt8}(h:ar w T B base l n d):∃ e,w.heap[B]?=some (.cells e T (0,0)):=by obtain⟨⟨v,m,_⟩,_⟩:=h;exact⟨_,m⟩
theorem ar.lt{w:World}{B base n d:Nat}{T:TypeId}{l:List UInt8}(h:ar w T B base l n d):B<w.heap.size:=by obtain⟨m,e⟩:=h.cbox;exact(aM.1 e).1
theorem ar.app{α:Type}{E:au Tryz.prog α}{w d:World}{B base n m b:Nat}{T:TypeId}{l:List UInt8}{v v':Value}{xs D:List α}(h:ar w T B base l n m)(o:Ow w b E v xs)(q:dg b E D w v v' d)(F:T≠E.e)(G:E.e≠(eB:au Tryz.prog UInt8).e):ar d T B base l n m:=by
 obtain⟨⟨x,z,A⟩,I⟩:=h;exact⟨⟨x,q.chg'.heap z (fun e=>o.ne_cells z F e),fX A.own o q G,A.top⟩,I⟩
theorem Jh (B base n : Nat) (q : Cs) (b : List UInt8) (w : World) (L : ar w 130 B base b q.at_ q.er) (hl : b.length ≤ 1000000) (hn : n ≤ 20000) :
    Calls Tryz.prog 201 #[.agg #[.pointer (some ⟨B,0,none⟩)],N n] w fun e M=>∃ u,e=.returned u/\Ow M w.heap.size eQ u (eP b n q 0 []).1/\ar M 130 B base b (eP b n q 0 []).2.at_ (eP b n q 0 []).2.er/\ah (fun k=>k=B) w M:=by
  have bc:=ad (fun s W (h:ar W 130 B base b s.at_ s.er)=>ED B base s b W h hl);have bd:=ad (fun n er W h=>iE B base n er b W h);have bk:Hid (∀ k s d o,k<n->eP b (n - k) s d o=if s.er=0 then eP b (n - (k+1)) (s.num b).2 ((d+iI (s.num b).1) % 18446744073709551616) (o++[(d+iI (s.num b).1) % 18446744073709551616])else(o,s)):=fun k s d o h=>(by rw [show n - k=(n - (k+1))+1 by omega,eP]);have ac:Hid (∀ s:Cs,(s.num b).1<18446744073709551616):=fun s=>by
    show s.val _<_;unfold Cs.val;split;· exact xC _
    · decide
  obtain⟨R,O⟩:∃ R,R=eP b n q 0 []:=⟨_,rfl⟩;rw [<- O];have HR:Hid (R=eP b (n - 0) q 0 []):=O;clear O;have ca:=L.lt;have aj:(w.alloc (.cells #[.pointer (some ⟨B,0,none⟩)] 257)).heap[w.heap.size]?=some (.cells #[.pointer (some ⟨B,0,none⟩)] 257 (0,0)):=a9 _ _ _ rfl;have Q:Fr w (w.alloc (.cells #[.pointer (some ⟨B,0,none⟩)] 257)):=(Fr.refl w).alloc _;have ak:w.heap.size+1<=(w.alloc (.cells #[.pointer (some ⟨B,0,none⟩)] 257)).heap.size:=(by simp);have ap:=L.fr Q;clear L;go_enter Tryz.func201, Tryz.ntmps201;go_wp2_with fail;generalize w.alloc (.cells #[.pointer (some ⟨B,0,none⟩)] 257)=W0 at *;generalize hg:w.heap.size=g at *;go_loopw [5,6] (fun U tv wr=>∃ (k d:Nat) (s:Cs) (o:List Nat),k<=n/\o.length=k/\tv=.int .u64 (d:Int)/\Hid (d<18446744073709551616)/\Ow wr (g+1) eQ U o/\ar wr 130 B base b s.at_ s.er/\wr.heap[g]?=some (.cells #[.pointer (some ⟨B,0,none⟩)] 257 (0,0))/\ah (fun k=>k=B) w wr/\g+1<=wr.heap.size/\Hid (R=eP b (n - k) s d o)) (fun U _ _=>n - (match U with | .slice _ m _=>m | _=>0));case atStart=>exact⟨0,0,q,[],an _,rfl,rfl,by show 0<_;decide,Ow.nil,ap,aj,Q.chg _,ak,HR.out⟩
  case round=>
    clear ap aj Q ak;obtain⟨k,d,s,o,hk,V,rfl,HW,D,hC,X,Y,hz,z⟩:=hrel;obtain⟨oa,oc,av⟩:=D.shape';rw [V]at av;subst av;have a0:=ad V;clear V;have c0:=af X 0 rfl;have bu:B≠g:=(by omega);by_cases bv:k<n
    · have i1:(k:Int)<n:=(by omega);have G:=ad (bd.out s.at_ s.er wr hC);have F:=ad (bk.out k s d o bv);by_cases I:s.er=0
      · rw [ag I]at F;have a1:=ad (bc.out s wr hC);rw [I]at G;have Z:=ad D;have HG:=ad X;have a3:=hC.cbox;clear D hC X I;go_wp2_with fail;refine(G.out).mono ?_;rintro e w1 ⟨rfl,rfl⟩;go_wp2_with fail;refine(a1.out).mono ?_;rintro e w2 ⟨rfl,b2,J⟩;have a4:=ad (QH (s.num b).1 (ac.out s) w2);have b3:=Fp (s.num b).1 (ac.out s);have K := Z.out.chg J (fun i hi e => by
          obtain ⟨cs, h5⟩ := a3
          exact Z.out.ne_cells h5 (by decide) (by rw [hi, show i = B from e]))
        have a6:=J.heap HG.out (fun e=>bu e.symm);have b5:=Y.trans J fun _ _ h=>h;have a7:=az hz J.size;have cn:IntKind.u64.wrap ((d:Int)+((iI (s.num b).1:Nat):Int))=(((d+iI (s.num b).1) % 18446744073709551616:Nat):Int):=(by rw [IntKind.wrap_u64];omega);have HM:=ad (kH (d+iI (s.num b).1) (show 0<18446744073709551616 by omega));have b7:Hid (R=eP b (n - (k+1)) (s.num b).2 ((d+iI (s.num b).1) % 18446744073709551616) (o++[(d+iI (s.num b).1) % 18446744073709551616])):=z.out.trans F.out;have b8:Hid (o.length+[(d+iI (s.num b).1) % 18446744073709551616].length<=2147483648):=(by have:=a0.out;show _<=_;simp;omega);clear a1 G Z HG z F a3 b3;generalize (d+iI (s.num b).1) % 18446744073709551616=aa at *;generalize iI (s.num b).1=zz at *;generalize (s.num b).1=x1 at *;generalize (s.num b).2=s2 at *;go_wp2_with fail;refine(a4.out).mono ?_;rintro e w3 ⟨rfl,rfl⟩;clear a4;go_wp2_with (at_builtin;refine cW eQ rfl (.tmp 23) (.tmp 25) 138 rfl Tryz.underlying138 (g+1) rfl K [aa] _ _ _ rfl rfl rfl b8.out a7 ?_);intro v4 w4 A;have bA:=b2.app K A (by decide) (by decide);have bB:=A.chg'.heap a6 (fun e=>K.ne_cells a6 (by decide) e);have bL:ah (fun i=>i=B) w w4:=b5.trans A.chg' fun i hi e=>(by have:=(K.lt i e).1;omega);have bR:=az a7 A.size;have aC:=a0.out;obtain⟨va,vc,ba⟩:=A.own.shape';rw [aD,aC]at ba;subst ba;go_wp2_with fail;go_roundw;case rel=>exact⟨k+1,aa,s2,o++[aa],by omega,by rw [aD,aC];rfl,rfl,HM.out,A.own,bA,bB,bL,bR,b7.out⟩
        case measure=>simp;omega
      · have ab:Hid (R=(o,s)):=(by show _=_;rw [z.out,F.out,ae I]);have c3:¬(s.er:Int)=0:=(by omega);clear z F;go_wp2_with fail;refine(G.out).mono ?_;rintro e w1 ⟨rfl,rfl⟩;go_wp2_with fail;go_ret;rw [ab.out];exact⟨_,rfl,D.rebase (by omega),hC,Y⟩
    · have ab:Hid (R=(o,s)):=(by show _=_;rw [z.out,show n - k=0 by omega];rfl);have i1:¬(k:Int)<n:=(by omega);clear z;go_wp2_with fail;go_ret;rw [ab.out];exact⟨_,rfl,D.rebase (by omega),hC,Y⟩
theorem Cs.int_top(s:Cs)(l:List UInt8)(d:Nat):(s.int l d).1<=d:=by
 show Cs.val _ _<=_;unfold Cs.val;split;· rename_i h;exact(lH _ _ h.2).2.2
 · exact an _
abbrev ku(B d n p:Nat)(e:Value):Obj:=.cells #[.pointer (some ⟨B,0,none⟩),N d,N n,N p,e] 255 (0,0)
theorem Qf(F B base:Nat)(b:List UInt8)(w:World)(hG:w.heap[F]?=some (ku B 0 0 0 (.slice none 0 0)))(hc:ar w 130 B base b 0 0)(A:F≠B)(hl:b.length<=1000000)(hb:base<=w.heap.size) :
  Calls Tryz.prog 195 #[.pointer (some ⟨F,0,none⟩)] w fun e d=>e=.returned (.tuple #[])/\d.heap[F]?=some (ku B (dF b).1 (cU b).1 (dB b).1 (.slice none 0 0))/\ar d 130 B base b (jQ b).at_ (jQ b).er/\ah (fun k=>k=B\/k=F) w d:=by
 have ac:Hid (Calls Tryz.prog 82 #[.pointer (some ⟨B,0,none⟩)] w fun e d=>e=.returned (.int .u8 ((dF b).1:Int))/\ar d 130 B base b (dF b).2.at_ (dF b).2.er/\ah (fun b=>b=B) w d):=tf B base ⟨0,0⟩ b w hc hl hb;have aj:=ad (fun er s W (h:ar W 130 B base b s.at_ s.er)=>pY er B base s b W h);have ak:Hid (∀ W,ar W 130 B base b (mY b).at_ (mY b).er->Calls Tryz.prog 81 #[.pointer (some ⟨B,0,none⟩),N 32768] W fun e d=>e=.returned (N (cU b).1)/\ar d 130 B base b (cU b).2.at_ (cU b).2.er/\ah (fun b=>b=B) W d):=fun W h=>nR 32768 (by decide) B base (mY b) b W h hl;have ap:Hid (∀ W,ar W 130 B base b (cU b).2.at_ (cU b).2.er->Calls Tryz.prog 81 #[.pointer (some ⟨B,0,none⟩),N 32768] W fun e d=>e=.returned (N (dB b).1)/\ar d 130 B base b (dB b).2.at_ (dB b).2.er/\ah (fun b=>b=B) W d):=fun W h=>nR 32768 (by decide) B base (cU b).2 b W h hl;have J:Hid (mY b=if 1<(dF b).1 then(dF b).2.fail 2 else(dF b).2):=rfl;have M:Hid (jQ b=if 1032*(dB b).1+64<(cU b).1 then(dB b).2.fail 6 else(dB b).2):=rfl;have hx:(dF b).1<256:=kF _;have hn:(cU b).1<=32768:=Cs.int_top _ _ _;have hp:(dB b).1<=32768:=Cs.int_top _ _ _;have c7:=hc.lt;have cF:=af hG 0 rfl;clear hc;generalize jQ b=sD at *;generalize mY b=sC at *;generalize dF b=RW at *;generalize cU b=RN at *;generalize dB b=RP at *;obtain⟨m,sW⟩:=RW;obtain⟨q,sN⟩:=RN;obtain⟨o,sP⟩:=RP;simp only at ac ak ap J M hx hn hp;go_enter Tryz.func195, Tryz.ntmps195;go_wp2_with fail;refine(ac.out).mono ?_;rintro e X ⟨rfl,bd,av⟩;have O:=av.heap hG A;have z1:=al O 1;have d1:=af O 1 rfl;have cB:IntKind.i64.wrap (m:Int)=(m:Int):=aw _ (by omega);have Y:=a8 O 1 (.int .i64 (m:Int));have Q:=bd.box O (by decide) (fy A) (ao X ⟨F,1,none⟩ (.int .i64 (m:Int)));have a0:ah (fun k=>k=B\/k=F) w (X.setCell ⟨F,1,none⟩ (.int .i64 (m:Int))):=(av.mono (G':=fun k=>k=B\/k=F) (fun k hk h=>.inl h)).trans (ao X ⟨F,1,none⟩ _) (fun _ _ h=>.inr h);clear bd av ac;go_upto_if 15 with fail;generalize cb:X.setCell ⟨F,1,none⟩ (.int .i64 (m:Int))=W2 at *;clear cb O z1 d1;have cG:=Q.lt;go_cut []from 15 to 21 (fun wx=>wx.heap[F]?=some (ku B m 0 0 (.slice none 0 0))/\ar wx 130 B base b sC.at_ sC.er/\ah (fun k=>k=B\/k=F) w wx)
 case first=>
  by_cases z:1<m;· have a2:=ad (J.out.trans (ag z));have R:=ad (aj.out 2 sW W2 Q);have j1:(1:Int)<m:=(by omega);have c2:=af Y 0 rfl;clear J z Q;go_wp2_with fail;refine(R.out).mono ?_;rintro e w3 ⟨rfl,Z,bf⟩;have U:=bf.heap Y A;clear R;go_wp2_with fail;go_meet;rw [a2.out];exact⟨U,Z,a0.trans bf fun _ _ h=>.inl h⟩
  · have a2:=ad (J.out.trans (ae z));have j1:¬(1:Int)<m:=(by omega);clear J z;go_wp2_with fail;go_meet;rw [a2.out];exact⟨Y,Q,a0⟩
 case rest=>
  obtain⟨U,Z,bk⟩:=hcut;clear Y Q a0 J;have cf:=ad aj.out;clear aj;have c3:=af U 0 rfl;have bl:=ad (ak.out wc Z);clear ak Z;go_wp2_with fail;refine(bl.out).mono ?_;rintro e w4 ⟨rfl,bm,a5⟩;have K:=a5.heap U A;have z4:=al K 2;have d4:=af K 2 rfl;have ck:=af K 0 rfl;have G:=ao w4 ⟨F,2,none⟩ (N q);have a6:(w4.setCell ⟨F,2,none⟩ (N q)).heap[F]?=some (ku B m q 0 (.slice none 0 0)):=a8 K 2 (N q);have bs:=bm.box K (by decide) (fy A) G;have bu:=(bk.trans a5 (fun _ _ h=>.inl h)).trans G (fun _ _ h=>.inr h);clear bl c3 bm a5 U bk G;go_upto_region 9 with fail;generalize cl:w4.setCell ⟨F,2,none⟩ (N q)=W5 at *;clear cl z4 d4 ck K;have c5:=af a6 0 rfl;have bv:=ad (ap.out W5 bs);clear ap bs;go_wp2_with fail;refine(bv.out).mono ?_;rintro e w6 ⟨rfl,bx,aC⟩;have L:=aC.heap a6 A;have z6:=al L 3;have d6:=af L 3 rfl;have cs:=af L 0 rfl;have G:=ao w6 ⟨F,3,none⟩ (N o);have V:(w6.setCell ⟨F,3,none⟩ (N o)).heap[F]?=some (ku B m q o (.slice none 0 0)):=a8 L 3 (N o);have b0:=bx.box L (by decide) (fy A) G;have b1:=(bu.trans aC (fun _ _ h=>.inl h)).trans G (fun _ _ h=>.inr h);clear bv c5 bx aC a6 bu G;go_upto_region 11 with fail;generalize ct:w6.setCell ⟨F,3,none⟩ (N o)=I at *;clear ct z6 d6 cs L;have c0:=af V 0 rfl;have c2:=af V 2 rfl;have c3:=af V 3 rfl;have i1:IntKind.i64.wrap (1032*(o:Int))=1032*(o:Int):=aw _ (by omega);have i2:IntKind.i64.wrap (1032*(o:Int)+64)=1032*(o:Int)+64:=aw _ (by omega);by_cases z:1032*o+64<q;· have ba:=ad (M.out.trans (ag z));have j1:1032*(o:Int)+64<(q:Int):=(by omega);have R:=ad (fun W (h:Fr I W)=>cf.out 6 sP W (b0.fr h));clear M z;go_quiet (fail);have D:Fr I (I.drewN nq):=(Fr.refl I).drewN nq;have e0:=D.cell c0;have cu:=ad (R.out _ D);have cv:=D.heap V;have c1:=b1.trans (D.chg (fun k=>k=B)) (fun _ _ h=>.inl h);clear c0 c2 c3 R;go_wp2_with fail;refine(cu.out).mono ?_;rintro e w9 ⟨rfl,c4,b3⟩;have c6:=b3.heap cv A;go_wp2_with fail;go_end0;rw [ba.out];exact⟨rfl,c6,c4,c1.trans b3 fun _ _ h=>.inl h⟩
  · have ba:=ad (M.out.trans (ae z));have j1:¬1032*(o:Int)+64<(q:Int):=(by omega);clear M z;go_quiet (fail);have D:Fr I (I.drewN nq):=(Fr.refl I).drewN nq;go_wp2_with fail;go_end0;rw [ba.out];exact⟨rfl,D.heap V,b0.fr D,b1.trans (D.chg (fun k=>k=B)) (fun _ _ h=>.inl h)⟩
theorem Ef(b:List UInt8):(gM b).2.at_<=b.length:=by
 have d:(dF b).2.at_<=b.length:=Cs.take_le _ _ _ (an _);have h:(mY b).at_<=b.length:=by
  unfold mY;split
  · unfold Cs.fail;split;· exact d
    · exact d
  · exact d
 have m:(cU b).2.at_<=b.length:=Cs.int_le _ _ _ h;have e:(dB b).2.at_<=b.length:=Cs.int_le _ _ _ m;have o:(jQ b).at_<=b.length:=by
  unfold jQ;split
  · unfold Cs.fail;split;· exact e
    · exact e
  · exact e
 exact Cs.take_le _ _ _ (Cs.take_le _ _ _ o)
theorem Qd (F B base : Nat) (v : Value) (b : List UInt8) (o w : World) (hs : ai o eB v b) (bc : Fr o w) (c8 : o.heap.size ≤ B) (c9 : o.heap.size ≤ F) (K : w.heap[F]? = some (ku B (dF b).1 (cU b).1 (dB b).1 (.slice none 0 0))) (hc : ar w 130 B base b (jQ b).at_ (jQ b).er) (L : F ≠ B) (hl : b.length ≤ 1000000) (hb : base ≤ w.heap.size) (ht : bK o) :
    Calls Tryz.prog 196 #[.pointer (some ⟨F,0,none⟩),v] w fun e d=>∃ u,e=.returned (.tuple #[])/\d.heap[F]?=some (ku B (dF b).1 (cU b).1 (dB b).1 u)/\Ow d w.heap.size eB u (ea b).1/\ar d 130 B base b (gM b).2.at_ (jP b)/\ah (fun k=>k=B\/k=F) w d:=by
  have ac:=ad (fun k s W (h:ar W 130 B base b s.at_ s.er) q=>sX B base k s b W h hl q);have ca:=ad (fun n z W (h:ar W 130 B base b n z)=>iE B base n z b W h);have cb:=ad (fun n z W (h:ar W 130 B base b n z)=>qb B base n z b W h);have bf:=ad (fun z s W (h:ar W 130 B base b s.at_ s.er)=>pY z B base s b W h);have bk:Hid (∀ W,ar W 130 B base b (jQ b).at_ (jQ b).er->base<=W.heap.size->Calls Tryz.prog 119 #[.pointer (some ⟨B,0,none⟩),N (dB b).1] W fun e d=>∃ u,e=.returned u/\Ow d W.heap.size eB u (ea b).1/\ar d 130 B base b (ea b).2.at_ (ea b).2.er/\ah (fun b=>b=B) W d):=fun W h q=>ac.out _ _ W h q;have bl:Hid (∀ W,ar W 130 B base b (ea b).2.at_ (ea b).2.er->base<=W.heap.size->Calls Tryz.prog 119 #[.pointer (some ⟨B,0,none⟩),N 4] W fun e d=>∃ u,e=.returned u/\Ow d W.heap.size eB u (gM b).1/\ar d 130 B base b (gM b).2.at_ (gM b).2.er/\ah (fun b=>b=B) W d):=fun W h q=>ac.out _ _ W h q;have cc:=Ef b;have hE:jP b=if(gM b).2.er=0 then bP (b.take (gM b).2.at_)else(gM b).2.er:=rfl;have bs:=ad (fun W (h:Fr o W) v' (q:ai W eB v' (b.take (gM b).2.at_))=>oQ v' _ W q (by rw [aG];omega) (ht.fr h));have HS:=ad hs;have cA:=hc.lt;obtain⟨a0,cE,rfl,cF,ch,_⟩:=hs.shape;unfold maxLen at ch;have c0:=af K 0 rfl;have c3:=af K 3 rfl;have bv:=ad (bk.out w.drew (hc.fr (Fr.refl w).drew) hb);have M:=ad hE;clear hs hc ac bk hE;generalize jP b=E at *;generalize (dF b).1=xw at *;generalize (cU b).1=xn at *;generalize (dB b).1=xp at *;generalize (ea b).1=U at *;generalize (ea b).2=sB at *;generalize (gM b).1=U4 at *;generalize (gM b).2=m at *;go_enter Tryz.func196, Tryz.ntmps196;go_upto_region 0 with fail;go_cut []from 6 to 17 (fun O=>∃ u,O.heap[F]?=some (ku B xw xn xp u)/\Ow O w.heap.size eB u U/\ar O 130 B base b sB.at_ sB.er/\ah (fun k=>k=B\/k=F) w O)
  case first=>
    go_region_with (go_at_call 119; refine bv.out.mono ?_; rintro e w2 ⟨u, rfl, hU, cn, b0⟩
                    obtain ⟨Q, R, rfl⟩ := hU.shape'
                    have G := b0.heap (show w.drew.heap[F]? = _ from K) L
                    have d2 := af G 4 rfl
                    have z2 := al G 4)
    all_goals go_wp2_with fail
    all_goals go_meet
    all_goals exact⟨_,a8 G 4 (.slice Q U.length R),hU.chg (ao w2 ⟨F,4,none⟩ (.slice Q U.length R)) (fun k hk e=>hU.ne_cells G (by decide) (by rw [hk,show k=F from e])),cn.box G (by decide) (fy L) (ao w2 ⟨F,4,none⟩ (.slice Q U.length R)),(((Fr.refl w).drew.chg (fun k=>k=B\/k=F)).trans b0 (fun _ _ h=>.inl h)).trans (ao w2 ⟨F,4,none⟩ (.slice Q U.length R)) (fun _ _ h=>.inr h)⟩
  case rest=>
    obtain⟨u,ap,av,a1,a2⟩:=hcut;have b1:base<=wc.heap.size:=az hb a2.size;have c3:=af ap 0 rfl;have b2:=ad (bl.out wc a1 b1);have V:=a1.cbox;clear bv bl c0 K a1 b1;go_wp2_with fail;refine(b2.out).mono ?_;rintro e w4 ⟨u4,rfl,_,I,X⟩;have Y:=X.heap ap L;have a3 := av.chg X (fun i hi e => by
      obtain ⟨cs, h5⟩ := V
      exact av.ne_cells h5 (by decide) (by rw [hi, show i = B from e]))
    have a6:=a2.trans X (fun _ _ h=>.inl h);have c4:=af Y 0 rfl;have Z:=ad (ca.out _ _ w4 I);clear b2 c3 ap av a2 X V;by_cases J:m.er=0
    · have a7:((m.er:Nat):Int)=0:=(by omega);have aC:=ad (M.out.trans (ag J));have b4:=ad (cb.out _ _ w4 I);have b5:Fr o w4:=ah.below bc a6 bc.size (fun i e=>by rcases e with e | e <;> omega);obtain⟨cR,b6⟩:=gD eB 22 Tryz.underlying22 (HS.out.fr b5) m.at_ cc;have ba:=ad (bs.out w4 b5 _ b6);have b7:=ad (fun W (h:ar W 130 B base b m.at_ m.er)=>bf.out E m W h);have b8:Hid ((m.fail E).at_=m.at_/\(m.fail E).er=E):=(by show _/\_;unfold Cs.fail;rw [ag J];exact⟨rfl,rfl⟩);rw [a7]at Z;rw [<- aC.out]at ba;clear M J a7 bs bf b6;generalize bP (b.take m.at_)=ec at *;go_wp2_with fail;refine(Z.out).mono ?_;rintro e w5 ⟨rfl,rfl⟩;clear Z;go_wp2_with fail;refine(b4.out).mono ?_;rintro e w5 ⟨rfl,rfl⟩;clear b4;go_wp2_with fail;refine(ba.out).mono ?_;rintro e w6 ⟨u6,rfl,bA,D⟩;obtain⟨p6,z6,rfl⟩:=bA.shape';have cu:=D.heap Y;have c6:=D.cell c4;have cv:=ad (b7.out w6 (I.fr D));have bB:=a3.fr D;have c1:=a6.trans (D.chg (fun k=>k=B)) (fun _ _ h=>.inl h);have V:=I.cbox;clear ba b7 bA a3 Y c4;go_wp2_with fail;refine(cv.out).mono ?_;rintro e w7 ⟨rfl,bL,bb⟩;rw [b8.out.1,b8.out.2]at bL;have c5:=bb.heap cu L;have c7 := bB.chg bb (fun i hi e => by
        obtain ⟨cs, h5⟩ := V
        exact bB.ne_cells (D.heap h5) (by decide) (by rw [hi, show i = B from e]))
      go_wp2_with fail;go_end0;exact⟨u,rfl,c5,c7,bL,c1.trans bb (fun _ _ h=>.inl h)⟩
    · have a7:¬((m.er:Nat):Int)=0:=(by omega);have aC:=ad (M.out.trans (ae J));clear M J;go_wp2_with fail;refine(Z.out).mono ?_;rintro e w5 ⟨rfl,rfl⟩;go_wp2_with fail;(try simp only [Exit.inBlock,Exit.then]);refine aL (v:=.tuple #[]) (by simp [results,Tryz.results196,go_sem]) rfl ?_;rw [aC.out];exact⟨u,rfl,Y,a3,I,a6⟩
def eU:au Tryz.prog Nat:=⟨235,1,2,0,.int .u16 0,fun n=>[.int .u16 (n:Int)],by kernel_rfl,by decide,by decide,by simp [Value.cells],fun _=>rfl,by intro x u d;simp at d;subst d;rfl⟩
structure iW (w:World) (T:TypeId) (base g n:Nat) (hv lv:Value) (hs ls:List Nat):Prop where
 at0:w.heap[g]?=some (.cells #[N n,hv,lv] T (0,0))
 hi:Ow w base eJ hv hs
 lo:Ow w base eU lv ls
 lt:g<base
abbrev Tp(w:World)(base g n:Nat)(d e:Value)(h m:List Nat):Prop:=iW w 233 base g n d e h m
theorem Kv (x n : Nat) (hx : x ≤ 20000) (hn : n ≤ 14) {T : TypeId} (base g : Nat) (I G : Value) (o A : List Nat) (w : World) (h : iW w T base g n I G o A) (hl : o.length ≤ 20000) (b9 : A.length ≤ 20000) (ac : base ≤ w.heap.size) :
    Calls Tryz.prog 148 #[.pointer (some ⟨g,0,none⟩),N x] w fun e w'=>e=.returned (.tuple #[])/\∃ m a5,iW w' T base g n m a5 (o++[x / 2 ^ n]) (A++[x % 2 ^ n])/\ah (fun k=>k=g\/I.ownBlock=some k\/G.ownBlock=some k) w w':=by
  obtain⟨M,O,Q,R⟩:=h
  have a6:=jg O Q (by decide)
  have e0:=af M 0 rfl
  have e1:=af M 1 rfl
  have e2:=af M 2 rfl
  have bA:(x:Int) / 2 ^ n=((x / 2 ^ n:Nat):Int):=by simp
  have bB:x / 2 ^ n<=x:=lR _ _
  have aC:Hid (o.length+[x / 2 ^ n].length<=2147483648):=by show _<=_;simp;omega
  have HM:Hid (x % 2 ^ n=x % 2 ^ n):=rfl
  generalize V:x % 2 ^ n=z at *
  have HZ:=ad V
  clear V
  generalize hy:x / 2 ^ n=y at *
  have HY:=ad hy
  clear hy
  have bT:(0:Int)<=n:=by omega
  have ca:¬(n:Int)<0:=by omega
  have ba:Hid (base<=w.drew.heap.size):=ac
  have hD:=O.drew
  have B:Fr w (w.alloc (.cells #[.int .i64 (y:Int)] 3)):=(Fr.refl w).alloc _
  have bb:=B.cell e0
  have bc:=B.cell e1
  clear B
  have bd:∀ k,I.ownBlock=some k->base<=k:=fun k D=>(O.lt k D).1
  clear O
  go_enter Tryz.func148, Tryz.ntmps148
  go_upto_region 0 with fail
  go_cut []from 4 to 18 (fun X=>∃ m,X.heap[g]?=some (.cells #[N n,m,G] T (0,0))/\Ow X base eJ m (o++[y])/\ah (fun k=>k=g\/I.ownBlock=some k) w X/\(∀ b,m.ownBlock=some b->I.ownBlock=some b\/w.heap.size<=b))
  case first=>
    go_region_law (refine tS eJ rfl (.tmp 8) (.tmp 15) 60 rfl Tryz.underlying60 base rfl hD [y] _ _ _ rfl rfl rfl aC.out ba.out ?_
                   intro v' w4 d
                   have J := d.own
                   have Y := ad d.chg'
                   have cb := ad d.size
                   have bf := ad d.fresh
                   obtain ⟨K, L, m⟩ := J.shape'
                   have F := d.chg'.heap (show w.drew.heap[g]? = _ from M) (fun e => by have := bd g e; omega)
                   have e3 := af F 1 rfl
                   have e4 : w4.frozen? ⟨g, 1, none⟩ = false := al F 1
                   clear d
                   subst m)
    all_goals go_wp2_with fail
    all_goals go_meet
    all_goals refine⟨.slice K (o.length+1) L,?_,dx (by simpa using J) R,(Y.out.mono (fun k _ h=>Or.inr h)).trans (ao w4 ⟨g,1,none⟩ _) (fun k _ h=>Or.inl h),fun b hb=>bf.out b (by simpa using hb)⟩
    all_goals(have D:=a8 F 1 (.slice K (o.length+1) L);simpa using D)
  case rest=>
    obtain⟨bs,Z,a1,aa,cc⟩:=hcut
    have U:Ow wc base eU G A:=Q.chg aa fun q hq e=>by
      rcases e with e | e
      · have:=(Q.lt q hq).1;omega
      · rcases a6 with h | h
        · rw [h]at e;cases e
        · exact h (e.trans hq.symm)
    have c0:=af Z 0 rfl
    have c2:=af Z 2 rfl
    clear e0 e1 e2 bb bc Q
    have bv:Hid (A.length+[z].length<=2147483648):=by show _<=_;simp;omega
    have bx:Hid (base<=wc.drew.heap.size):=az ac aa.size
    have b0:=U.drew
    have hp:(2:Nat) ^ n<=16384:=ep (by omega) hn
    have b2:=mC n
    have ab:(2:Int) ^ n=((2 ^ n:Nat):Int):=by simp
    have w1:IntKind.i64.wrap ((2:Int) ^ n)=((2 ^ n:Nat):Int):=by rw [ab];exact aw _ (by omega)
    have w2:IntKind.i64.wrap (((2 ^ n:Nat):Int) - 1)=((2 ^ n - 1:Nat):Int):=by rw [aw _ (by omega)];omega
    have w3:bits .and .i64 (x:Int) ((2 ^ n - 1:Nat):Int)=(z:Int):=by
      rw [Q2 _ _ (by omega) (by omega),Fc,HZ.out]
    have w4:IntKind.u16.wrap (z:Int)=(z:Int):=by
      have V:z<2 ^ n:=by rw [<- HZ.out];exact kH _ b2
      simp only [IntKind.wrap,IntKind.bits,IntKind.signed]
      simp
      omega
    have B:Fr wc (wc.alloc (.cells #[.int .u16 (z:Int)] 235)):=(Fr.refl wc).alloc _
    have ck:=B.cell c0
    have cl:=B.cell c2
    clear B
    have cm:=ad ab
    clear ab hp
    generalize 2 ^ n - 1=pm at *
    generalize a3:2 ^ n=pn at *
    have cq:=ad a3
    clear a3
    have b3:∀ k,G.ownBlock=some k->base<=k:=fun k D=>(U.lt k D).1
    have b4:=ad U
    have b5:=ad a1
    clear U a1
    go_upto_region 1 with fail

    go_region_law (refine tS eU rfl (.tmp 23) (.tmp 33) 231 rfl Tryz.underlying231 base rfl b0 [z] _ _ _ rfl rfl rfl bv.out bx.out ?_
                   intro v' w4 d
                   have J := d.own
                   have Y := ad d.chg'
                   have b6 := ad (fX b5.out b4.out d (by decide))
                   obtain ⟨K, L, m⟩ := J.shape'
                   have F := d.chg'.heap (show wc.drew.heap[g]? = _ from Z) (fun e => by have := b3 g e; omega)
                   have e3 := af F 2 rfl
                   have e4 : w4.frozen? ⟨g, 2, none⟩ = false := al F 2
                   clear d
                   subst m)
    all_goals go_wp2_with fail
    all_goals go_end0
    all_goals refine⟨rfl,⟨bs,.slice K (A.length+1) L,⟨?_,?_,?_,R⟩⟩,(aa.mono (fun k _ h=>?_)).trans ((Y.out.mono (G':=fun k=>k=g\/G.ownBlock=some k) (fun k _ h=>.inr h)).trans (ao w4 ⟨g,2,none⟩ _) (fun k _ h=>.inl h)) (fun k _ h=>?_)⟩
    all_goals first
      | (have D:=a8 F 2 (.slice K (A.length+1) L);simpa using D)
      | exact dx b6.out R
      | (exact dx (by simpa using J) R)
      | exact Or.elim h (fun h=>.inl h) (fun h=>.inr (.inl h))
      | exact Or.elim h (fun h=>.inl h) (fun h=>.inr (.inr h))
def lB(d:Bool)(r:aF):List UInt8:=(if d then bI r.time.toNat++[r.level]else [])++(lw r.source++lw r.text)
theorem tP(s:List UInt8)(h:s.length<18446744073709551616):(lw s).length<=s.length+10:=by
 unfold lw;have:=jI s.length h;rw [aD];omega
theorem BN(b:Bool)(r:aF)(d:r.source.length<=100000)(e:r.text.length<=100000):(lB b r).length<=r.source.length+r.text.length+31:=by
 have h:=tP r.source (by omega);have m:=tP r.text (by omega);have o:=jI r.time.toNat (nW _);unfold lB;cases b;· simp only [aD];simp;omega
 · simp only [aD,mA];simp;omega
theorem IJ(w:World)(d e h:Hd)(o q z:List UInt8)(A:ai w eB d.v o)(B:ai w eB e.v q)(D:ai w eB h.v z) :
  dl (w.alloc (.cells #[d.v,e.v,h.v] 22)) aQ eB (.slice (some ⟨w.heap.size,0,none⟩) 3 3) [d,e,h] [o,q,z]:=by
 refine⟨l8 aQ w [d,e,h] _ _ 3 rfl rfl (by simp [maxLen]),rfl,fun i a b=>?_⟩;have m:=(Fr.refl w).alloc (.cells #[d.v,e.v,h.v] 22);have:i=0\/i=1\/i=2:=by simp at a;omega
 rcases this with rfl | rfl | rfl;· exact A.fr m
 · exact B.fr m
 · exact D.fr m
theorem wB{w:World}{v:Value}{p:List UInt8}(h:ai w eB v p):∃ x:Hd,v=x.v:=by
 obtain⟨a,c,d,_⟩:=h.shape;exact⟨⟨a,p.length,c⟩,d⟩
theorem Q5(W:World)(q z A:Value)(d h m:List UInt8)(B:ai W eB q d)(D:ai W eB z h)(F:ai W eB A m)(O:d.length+h.length+m.length<=1000000) :
  Calls Tryz.prog 32 #[.slice (some ⟨W.heap.size,0,none⟩) 3 3] (W.alloc (.cells #[q,z,A] 22)) fun e o=>∃ v,e=.returned v/\Ow o W.heap.size eB v (d++(h++m))/\Fr W o:=by
 obtain⟨G,rfl⟩:=wB B;obtain⟨I,rfl⟩:=wB D;obtain⟨J,rfl⟩:=wB F;refine(vh _ _ _ _ (IJ W G I J d h m B D F) (by simp;omega)).mono ?_;rintro e o ⟨v,K,L,M⟩;exact⟨v,K,by simpa using L.rebase (by simp),((Fr.refl W).alloc _).trans M⟩
def gL(b:Bool)(l:List aF):List UInt8:=(l.map (lB b)).flatten
theorem PE(b:Bool)(l:List aF)(k:Nat)(h:k<l.length):gL b (l.take (k+1))=gL b (l.take k)++lB b l[k]:=N5 _ l k h
theorem PD(b:Bool)(l:List aF)(k:Nat):(gL b (l.take k)).length<=(gL b l).length:=by
 unfold gL;rw [qW,qW];exact zE _ l k
theorem S5(d:Bool)(L:Hid (∀ (r:aF) (W:World),r.source.length<=100000->r.text.length<=100000->Calls Tryz.prog 58 #[.bool d,lA r] W fun e h=>∃ v,e=.returned v/\Ow h W.heap.size eB v (lB d r)/\Fr W h))(v:Value)(l:List aF)(w:World)(D:ai w eR v l)(Y:(gL d l).length<=1000000)(F:∀ r∈l,r.source.length<=100000/\r.text.length<=100000) :
  Calls Tryz.prog 36 #[.bool d,v] w fun e h=>∃ v,e=.returned v/\Ow h w.heap.size eB v (gL d l)/\Fr w h:=by
 obtain⟨a,Z,rfl,aa,M,ab⟩:=D.shape;unfold maxLen at M;have O:=ad F;clear F;go_enter Tryz.func36, Tryz.ntmps36;go_wp2_with fail;go_loopw [5,10] (fun Q o wr=>∃ k:Nat,k<=l.length/\o=N k/\Ow wr w.heap.size eB Q (gL d (l.take k))/\Fr w wr) (fun _ o _=>l.length - (intOf o).toNat);case atStart=>exact⟨0,an _,rfl,Ow.nil,Fr.refl w⟩
 case round=>
  obtain⟨k,hk,rfl,q,z⟩:=hrel;by_cases A:k<l.length;· obtain⟨b,aj,ak,R,c0,c1,c2,c3⟩:=pA (D.fr z) k A;have G:=ad (PE d l k A);have U:=PD d l (k+1);rw [G.out,aD]at U;have I:=O.out _ (bX A);have V:=ad (fun W=>L.out l[k] W I.1 I.2);generalize l[k]=r at *;cases R;have i1:(0:Int)<=k:=(by omega);have i2:(k:Int)<l.length:=(by omega);go_wp2_with fail;refine(V.out _).mono ?_;rintro e w1 ⟨v1,rfl,X,m⟩;have B:=z.alloc (.cells #[.int .u64 r.time.toNat,Fk.u8 r.level,S r.source,S r.text] 40);have J:=(q.fr ((Fr.refl wr).alloc (.cells #[.int .u64 r.time.toNat,Fk.u8 r.level,S r.source,S r.text] 40))).fr m;go_wp2_with (at_builtin;refine jb eB rfl (.tmp 14) (.tmp 17) 22 rfl Tryz.underlying22 w.heap.size rfl J _ _ rfl X.see (by omega) (B.trans m).size ?_);intro v' w4 K;go_wp2_with fail;exact⟨⟨k+1,by omega,by go_num,by rw [G.out];exact K.own,K.below J (B.trans m) (am _) (B.trans m).size⟩,by simp [intOf];omega⟩
  · obtain rfl:k=l.length:=(by omega);have a5:¬((l.length:Int)<l.length):=(by omega);rw [dO]at q;go_wp2_with fail;go_ret;exact⟨_,rfl,q,z⟩
def gd(b:Bool)(r:aF):Nat:=(lB b r).length
theorem IG(m:List Nat)(x y:Nat):(m++[x]).set m.length y=m++[y]:=by
 rw [zj _ _ (am _),gu];rfl
theorem Sx(o:Bool)(H1:Hid (∀ (r:aF) (W:World),r.source.length<=100000->r.text.length<=100000->Calls Tryz.prog 58 #[.bool o,lA r] W fun e L=>∃ v,e=.returned v/\Ow L W.heap.size eB v (lB o r)/\Fr W L))(q:Nat)(b7:2<=q)(b8:q<=1000000)(v:Value)(l:List aF)(w:World)(hs:ai w eR v l)(hl:l.length<=1000000)(hb:∀ r∈l,r.source.length<=100000/\r.text.length<=100000) :
  Calls Tryz.prog 30 #[N q,.bool o,v] w fun e L=>∃ v,e=.returned v/\Ow L w.heap.size eJ v (jn q (gd o) l)/\Fr w L:=by
 obtain⟨a,bA,rfl,bB,bu,bL⟩:=hs.shape;unfold maxLen at bu;have HB:=ad hb;clear hb;have bR:(1:Int)<q:=by omega
 go_enter Tryz.func30, Tryz.ntmps30;go_wp2_with fail;go_loopw [7,8,14] (fun ov hv iv wr=>∃ (k h:Nat) (m:List Nat),k<=l.length/\iv=N k/\hv=N h/\h<=1000000+300000/\m.length<=k/\Ow wr w.heap.size eJ ov m/\Hid ((k=0/\m=[]/\h=0)\/∃ c d,m=d++[c]/\c<=k/\jn q (gd o) l=d++ko q (gd o) c h (l.drop k))/\Fr w wr) (fun _ _ iv _=>l.length - (intOf iv).toNat);case atStart=>exact⟨0,0,[],an _,rfl,rfl,by omega,am _,Ow.nil,.inl ⟨rfl,rfl,rfl⟩,Fr.refl w⟩
 case round=>
  obtain⟨k,h,m,hk,rfl,rfl,hh,aj,ak,M,hf⟩:=hrel;by_cases Y:k<l.length
  · obtain⟨b,cb,cc,hv,c0,c1,c2,c3⟩:=pA (hs.fr hf) k Y;have Z:=HB.out _ (bX Y);have HO:=ad (fun W=>H1.out l[k] W Z.1 Z.2);have ck:gd o l[k]<=200031:=(by have:=BN o l[k] Z.1 Z.2;unfold gd;omega);have av:=ad (ip Y);have a0:Hid (k=0->jn q (gd o) l=ko q (gd o) 1 (gd o l[k]) (l.drop (k+1))):=by
     intro O;subst O
     cases l with
     | nil=>simp at Y
     | cons r l=>rfl
    have a7:Hid (gd o l[k]=(lB o l[k]).length):=rfl;generalize aC:gd o l[k]=n at *;generalize l[k]=r at *;have b1:=ad aC;clear aC;cases hv;have i1:(0:Int)<=k:=(by omega);have i2:(k:Int)<l.length:=(by omega);have b2:=hf.alloc (.cells #[.int .u64 r.time.toNat,Fk.u8 r.level,S r.source,S r.text] 40);have ba:=ak.fr ((Fr.refl wr).alloc (.cells #[.int .u64 r.time.toNat,Fk.u8 r.level,S r.source,S r.text] 40));have cn:IntKind.i64.wrap ((h:Int)+n)=(h:Int)+n:=aw _ (by omega);go_wp2_with fail;refine(HO.out _).mono ?_;rintro e w1 ⟨v1,rfl,bb,bc⟩;obtain⟨cs,ct,bd⟩:=bb.shape';rw [<- a7.out]at bd;subst bd;have G:=ba.fr bc;have I:=b2.trans bc;clear ak ba bb a7;by_cases a1:k=0
    · have b3:m=[]/\h=0:=by
        rcases M.out with⟨_,J,h2⟩ | ⟨c,d,J,_⟩;· exact⟨J,h2⟩
        · rw [J]at aj;simp at aj;omega
      obtain⟨rfl,rfl⟩:=b3;have HE:=ad (a0.out a1);clear M a0 av;obtain⟨oa,oc,Q⟩:=G.shape';rw [lh]at Q;subst Q;go_wp2_with (at_builtin;refine cW eJ rfl (.tmp 33) (.tmp 34) 60 rfl Tryz.underlying60 w.heap.size rfl G [0] _ _ _ rfl rfl rfl (by simp) I.size ?_);intro v' w4 K;have z:=K.own;have A:=K.below G I (am _) I.size;try rw [kI]at z
      obtain⟨g,gc,D,R,bk,_,_⟩:=z.atHead (by simp);rw [show([(0:Nat)]).length=1 from by simp]at D;subst D;obtain⟨U,z2⟩:=z.cellAt (fun n=>N n) rfl 0 (by simp);have B:=z.set (fun n=>N n) rfl 0 (by simp) 1 (.int .i64 1) rfl;rw [show([(0:Nat)])[0]'(by simp)=0 from by simp]at U;rw [show([(0:Nat)]).set 0 1=[1]from rfl]at B;have F:=ex (i:=0) (u:=.int .i64 1) A R (Fr.size A);have V:=ad B;have X:=ad F;clear z B F A;go_wp2_with fail;exact⟨⟨k+1,0+n,[1],by omega,by go_num,by go_num,by omega,by simp,V.out,(by subst a1;exact .inr ⟨1,[],rfl,by omega,by rw [HE.out];simp⟩),X.out⟩,by simp [intOf];omega⟩
    · obtain⟨c,d,rfl,cu,HG⟩:∃ c d,m=d++[c]/\c<=k/\jn q (gd o) l=d++ko q (gd o) c h (l.drop k):=by
        rcases M.out with⟨O,_⟩ | J;· exact absurd O a1
        · exact J
      rw [av.out,ko,b1.out]at HG;have aa:=ad HG;clear M a0 HG av;obtain⟨oa,oc,Q⟩:=G.shape';rw [show(d++[c]).length=d.length+1 from by simp]at Q aj;subst Q;have cv:((d.length:Int)+1 == 0)=false:=(by simp;omega);by_cases bm:h+n<=q;· have b6:decide ((q:Int)<(h:Int)+n)=false:=(by simp;omega);have z:=G;have A:=I;rw [ag bm]at aa;have c4:(c:Int)<=1000000:=(by omega);have c5:(0:Int)<=c:=(by omega);obtain⟨g,gc,D,R,bk,_,_⟩:=z.atHead (by simp);rw [show(d++[c]).length=d.length+1 from by simp]at D;cases D;obtain⟨U,z2⟩:=z.cellAt (fun n=>N n) rfl d.length (by simp);have B:=z.set (fun n=>N n) rfl d.length (by simp) (c+1) (.int .i64 ((c:Int)+1)) rfl;rw [show(d++[c])[d.length]'(by simp)=c from by simp]at U;rw [show(d++[c]).set d.length (c+1)=(d++[c+1])from IG d c (c+1)]at B;have F:=ex (i:=d.length) (u:=.int .i64 ((c:Int)+1)) A R (Fr.size A);have V:=ad B;have X:=ad F;clear z B F A;go_wp2_with fail;exact⟨⟨k+1,h+n,(d++[c+1]),by omega,by go_num,by go_num,by omega,by simp;omega,by simpa using V.out,.inr ⟨c+1,d,rfl,by omega,aa.out⟩,X.out⟩,by simp [intOf];omega⟩
      · have b6:decide ((q:Int)<(h:Int)+n)=true:=(by simp;omega);have c6:(q:Int)<(h:Int)+n:=(by omega);have c7:¬(h:Int)+n<=q:=(by omega);rw [ae bm]at aa;go_wp2_with (at_builtin;refine cW eJ rfl (.tmp 33) (.tmp 34) 60 rfl Tryz.underlying60 w.heap.size rfl G [0] _ _ _ rfl rfl rfl (by simp;omega) I.size ?_);intro v' w4 K;have z:=K.own;have A:=K.below G I (am _) I.size;have c8:(d++[c]++[0]:List Nat).length=d.length+1+1:=(by simp);have z:Ow w4 w.heap.size eJ v' (d++[c]++[0]):=(by simpa using z);clear K;obtain⟨g,gc,D,R,bk,_,_⟩:=z.atHead (by simp);rw [show(d++[c]++[0]:List Nat).length=d.length+1+1 from by simp]at D;subst D;obtain⟨U,z2⟩:=z.cellAt (fun n=>N n) rfl (d.length+1) (by simp);have B:=z.set (fun n=>N n) rfl (d.length+1) (by simp) 1 (.int .i64 1) rfl;rw [show(d++[c]++[0]:List Nat)[(d.length+1)]'(by simp)=0 from by simp]at U;rw [show(d++[c]++[0]:List Nat).set (d.length+1) 1=(d++[c]++[1])from by simp]at B;have F:=ex (i:=(d.length+1)) (u:=.int .i64 1) A R (Fr.size A);have V:=ad B;have X:=ad F;clear z B F A;go_wp2_with fail;exact⟨⟨k+1,n,(d++[c]++[1]),by omega,by go_num,by go_num,by omega,by simp;omega,by simpa using V.out,.inr ⟨1,d++[c],rfl,by omega,by rw [aa.out];simp⟩,X.out⟩,by simp [intOf];omega⟩
  · obtain rfl:k=l.length:=(by omega);have c9:¬((l.length:Int)<l.length):=(by omega);have HE:Hid (m=jn q (gd o) l):=by
     show _=_;rcases M.out with⟨O,rfl,_⟩ | ⟨c,d,J,_,h2⟩;· have:l=[]:=ja O;subst this;rfl
     · rw [J,h2,qk,ko]
    go_wp2_with fail;go_ret;exact⟨_,rfl,by rw [<- HE.out];exact ak,hf⟩
def dz:au Tryz.prog It:=⟨328,2,16,⟨0,false,[]⟩,.agg #[.int .u64 0,.bool false],fun x=>[.int .u64 (x.w.toNat:Int),.bool x.leaf],by kernel_rfl,by decide,by decide,by simp [Value.cells],fun _=>rfl,by intro x u d;simp at d;rcases d with rfl | rfl <;> rfl⟩
def eX(d e:List Nat):List It:=e.map fun s=>⟨UInt64.ofNat (d.getD s 0),true,[s]⟩
theorem Cz(e d:List Nat):(eX e d).length=d.length:=by simp [eX]
theorem C0(d e:List Nat):∀ x∈eX d e,x.leaf=true:=by
 intro x h;obtain⟨s,_,rfl⟩:=g6.1 h;rfl
theorem C1(e d:List Nat)(k:Nat)(h:k<d.length):(eX e d)[k]?=some ⟨UInt64.ofNat (e.getD d[k] 0),true,[d[k]]⟩:=by simp [eX,h]
theorem Mt(G I:Value)(h d:List Nat)(w:World)(J:ai w eV G h)(K:ai w eJ I d)(hn:d.length<=1000000)(L:∀ s∈d,s<h.length)(M:∀ x∈h,x<4294967296) :
  Calls Tryz.prog 213 #[G,I] w fun e O=>∃ v,e=.returned v/\Ow O w.heap.size dz v (eX h d)/\Fr w O:=by
 obtain⟨a,ba,rfl,bb,aj,bc⟩:=J.shape;obtain⟨a',bf,rfl,bk,ak,bl⟩:=K.shape;unfold maxLen at aj ak;have bm:=sb dz 323 Tryz.underlying323 .i64 .i64 d.length (by omega);have Q:=ad (xN (base:=w.heap.size) dz d.length (by omega) w (am _));have U:=ad ((Fr.refl w).alloc (.cells (madeCells dz.z.cells (d.length*dz.k)) dz.e));have q:=ad (Cz h d);have ap:=ad (C1 h d);generalize hR:eX h d=R at *;clear hR;generalize hT:madeCells dz.z.cells (d.length*dz.k)=V at *;clear hT;go_enter Tryz.func213, Tryz.ntmps213;go_wp2_with fail;rw [show(dz:au Tryz.prog It).e=328 from rfl]at *;have X:=U.out;have Y:(w.alloc (.cells V 328)).heap.size=w.heap.size+1:=by simp
 have Z:=Q.out;clear U Q;generalize w.alloc (.cells V 328)=W0 at *;have bu:=ad Y;clear Y;go_loopw [13] (fun B wr=>∃ k:Nat,k<=d.length/\B=N k/\Ow wr w.heap.size dz (.slice (some ⟨w.heap.size,0,none⟩) d.length d.length) (R.take k++List.replicate (d.length - k) (⟨0,false,[]⟩:It))/\Fr w wr) (fun B _=>d.length - (intOf B).toNat);case atStart=>exact⟨0,an _,rfl,by simp only [ld,kI,Nat.sub_zero];exact Z,X⟩
 case round=>
  clear Z X;obtain⟨k,hk,rfl,z,o⟩:=hrel;by_cases m:k<d.length
  · obtain⟨b,bv,cp,hv,c1⟩:=xW (K.fr o) k m;have A:=ap.out k m;have D:=L _ (bX m);generalize aa:d[k]=s at *;obtain⟨b2,b3,b4,a3,c2⟩:=tJ (J.fr o) s D;have e2:h.getD s 0=h[s]:=(by rw [cD,bE D];rfl);have a5:=M _ (bX D);rw [e2]at A;generalize h[s]=x at *;cases hv;cases a3;have ab:(R.take k++List.replicate (d.length - k) (⟨0,false,[]⟩:It)).length=d.length:=uA R _ _ _ q.out hk;have ac:((UInt64.ofNat x).toNat:Int)=x:=(by rw [UInt64.toNat_ofNat'];omega);have a6:=ad (z.set2 (fun y=>⟨_,_,rfl⟩) k (by rw [ab];exact m) (⟨UInt64.ofNat x,true,[s]⟩:It) (.int .u64 (x:Int)) (.bool true) (by show [Value.int .u64 ((UInt64.ofNat x).toNat:Int),Value.bool true]=_;rw [ac]));have a7:=ad (uz R (⟨0,false,[]⟩:It) d.length k q.out m ⟨UInt64.ofNat x,true,[s]⟩ (by rw [bE (by rw [q.out];exact m)]at A;exact jy A));obtain⟨u0,v0,d1,d2,F⟩:∃ u v,wr.cell? ⟨w.heap.size,k*2,none⟩=some u/\wr.cell? ⟨w.heap.size,k*2+1,none⟩=some v/\(∀ j,wr.frozen? ⟨w.heap.size,j,none⟩=false):=⟨_,_,z.cell2 k (by rw [ab];exact m) _ _ rfl⟩;have d4:=F (k*2);have d5:=F (k*2+1);clear F;have i1:(0:Int)<=k:=(by omega);have i2:(k:Int)<d.length:=(by omega);have i3:(0:Int)<=s:=(by omega);have i4:(s:Int)<h.length:=(by omega);have ca:=ad aa;have cb:IntKind.u64.wrap (x:Int)=(x:Int):=eu _ (by omega);clear aa A L M a5 ac;go_wp2_with fail;go_roundw;case rel=>exact⟨k+1,by omega,by go_num,by rw [<- a7.out];exact a6.out,ex (ex o (am _) o.size) (am _) (by simpa [World.setCell] using o.size)⟩
    case measure=>simp [intOf];omega
  · obtain rfl:k=d.length:=(by omega);have cc:¬((d.length:Int)<d.length):=(by omega);have e:R.take d.length++List.replicate (d.length - d.length) (⟨0,false,[]⟩:It)=R:=(by rw [gu,vzQb,gq,<- q.out,dO]);rw [e]at z;go_wp2_with fail;go_ret;exact⟨_,rfl,z,o⟩
theorem qO{w:World}{v:Value}{l:List It}(h:ai w dz v l)(k:Nat)(m:k<l.length) :
  ∃ b d o,v=.slice (some ⟨b,d,none⟩) l.length o/\w.cell? ⟨b,d+k*2,none⟩=some (.int .u64 (l[k].w.toNat:Int))/\w.cell? ⟨b,d+k*2+1,none⟩=some (.bool l[k].leaf):=by
 obtain⟨b,d,o,rfl,B,D,q⟩:=h.cells (by intro e;simp [e]at m);have z:=q k m 0 (by decide) _ rfl;have A:=q k m 1 (by decide) _ rfl;exact⟨b,d,o,rfl,by simpa [dz] using z,by simpa [dz,rx] using A⟩
theorem Do(d:List It)(k:Nat)(h:k+1<d.length):cX (d.drop k)=⟨d[k].w+d[k+1].w,false,d[k].syms++d[k+1].syms⟩::cX (d.drop (k+2)):=by
 rw [ip (by omega),ip h,cX]
theorem Dn(d:List It)(k:Nat)(h:d.length<=k+1):cX (d.drop k)=[]:=by
 have e:(d.drop k).length<=1:=by rw [aU];omega
 generalize d.drop k=r at *
 match r,e with
 | [],_=>rfl
 | [_],_=>rfl
theorem Gq(a b:UInt64):(a<=b)↔((a.toNat:Int)<=b.toNat):=by rw [UInt64.le_iff_toNat_le];omega
theorem zZ(a b:UInt64):IntKind.u64.wrap ((a.toNat:Int)+b.toNat)=((a+b).toNat:Int):=by
 rw [IntKind.wrap_u64,UInt64.toNat_add];omega
theorem Lu(va vb:Value)(h d:List It)(w:World)(ha:ai w dz va h)(M:ai w dz vb d)(hn:h.length<=1000000)(hm:d.length<=2000000) :
  Calls Tryz.prog 214 #[va,vb] w fun e w'=>∃ v,e=.returned v/\Ow w' w.heap.size dz v (ci h (cX d))/\Fr w w':=by
 obtain⟨a,cq,rfl,cs,bl,ct⟩:=ha.shape;obtain⟨a',cv,rfl,c3,bm,c4⟩:=M.shape;unfold maxLen at bl bm;have V:=xL h (cX d);rw [qD]at V;have c5:(d.length:Int).tdiv 2=((d.length / 2:Nat):Int):=by rw [Int.tdiv_eq_ediv_of_nonneg (by omega)];omega
 have c6:(d.length:Int) / 2=((d.length / 2:Nat):Int):=by omega
 have c7:IntKind.i64.wrap ((h.length:Int)+((d.length / 2:Nat):Int))=((h.length+d.length / 2:Nat):Int):=by rw [aw _ (by omega)];omega
 have bs:h.length+d.length / 2<=1000000000:=by omega
 have bu:Hid (ci h (cX d)=[]++ci (h.drop 0) (cX (d.drop 0))):=by show _=_;simp
 have c8:=ad V;clear V;generalize ci h (cX d)=R at *;generalize a7:h.length+d.length / 2=C at *;have HC:=ad a7;clear a7;generalize d.length / 2=rh at *;go_enter Tryz.func214, Tryz.ntmps214;go_wp2_with (refine rG dz rfl (.const (.int .i64 0)) (.tmp 14) 323 rfl Tryz.underlying323 .i64 .i64 (C:Int) C rfl ?c1 rfl bs w.heap.size (am _) ?_);case c1=>first | rfl | trivial
 intro w1 aC ba;have bb:Fr w w1:=Fr.own (Fr.refl w) ba (fun k X=>by cases X);go_wp2_with fail;clear ba;go_loopw [5,6,7] (fun ov iv kv wr=>∃ (i k:Nat) (m:List It),i<=h.length/\k<=d.length/\iv=N i/\kv=N k/\m.length<=i+k/\Ow wr w.heap.size dz ov m/\Hid (R=m++ci (h.drop i) (cX (d.drop k)))/\Fr w wr) (fun _ iv kv _=>h.length - (intOf iv).toNat+(d.length - (intOf kv).toNat));case atStart=>exact⟨0,0,[],an _,an _,rfl,rfl,by simp,aC,bu,bb⟩
 case round=>
  clear aC bb;obtain⟨i,k,m,hi,X,rfl,rfl,V,B,D,o⟩:=hrel;have cB:IntKind.i64.wrap ((k:Int)+1)=((k+1:Nat):Int):=(by rw [aw _ (by omega)];omega);by_cases bc:i<h.length
  · have b1:(i:Int)<h.length:=(by omega);obtain⟨b,cE,cp,hv,Y,c1⟩:=qO (ha.fr o) i bc;have J:=ad (ip bc);have cG:Hid (dz.cells [h[i]]=[.int .u64 (h[i].w.toNat:Int),.bool h[i].leaf]):=rfl;generalize h[i]=x at *;have cL:=nW x.w;cases hv;have j1:(0:Int)<=i:=(by omega);by_cases O:k+1<d.length
    · have av:((k+1:Nat):Int)<d.length:=(by omega);obtain⟨b2,b6,b7,Q,Z,d1⟩:=qO (M.fr o) k (by omega);obtain⟨b3,b9,bA,U,e0,e1⟩:=qO (M.fr o) (k+1) O;rw [Q]at U;cases U;have I:=ad (Do d k O);generalize d[k]=p at *;generalize d[k+1]=q at *;cases Q;have bB:=zZ p.w q.w;have HU:=ad (Gq x.w (p.w+q.w));generalize K:(⟨p.w+q.w,false,p.syms++q.syms⟩:It)=y at *;have a0:Hid (dz.cells [y]=[.int .u64 ((p.w+q.w).toNat:Int),.bool false]):=(by subst K;rfl);have bd:Hid (y.w=p.w+q.w):=(by subst K;rfl);have bL:=nW (p.w+q.w);have bR:=nW p.w;have bT:=nW q.w;clear K;generalize (p.w+q.w).toNat=s at *;generalize p.w.toNat=pw at *;generalize q.w.toNat=qw at *;have j2:(0:Int)<=k:=(by omega);have j3:(k:Int)<d.length:=(by omega);have j4:(0:Int)<=((k+1:Nat):Int):=(by omega);have cj:¬(d.length:Int)<=((k+1:Nat):Int):=(by omega);have a1:k+2<=d.length:=(by omega);have ck:IntKind.i64.wrap ((k:Int)+2)=((k+2:Nat):Int):=(by rw [aw _ (by omega)];omega);have bf:=B;by_cases L:x.w<=p.w+q.w
      · have cl:(x.w.toNat:Int)<=s:=HU.out.1 L;have F:Hid (R=(m++[x])++ci (h.drop (i+1)) (cX (d.drop k))):=(by show _=_;rw [D.out,I.out,J.out,ci,ag (by rw [bd.out];exact L)];simp);clear D J I HU L bf;go_upto_region 7 with fail;go_quiet (fail);have G:=B.fr ((Fr.refl wr).drewN nq);have z:=o.trans ((Fr.refl wr).drewN nq);replace Y:=((Fr.refl wr).drewN nq).cell Y;replace c1:=((Fr.refl wr).drewN nq).cell c1;clear B o Z d1 e0 e1;generalize wr.drewN nq=w5 at *;go_wp2_with (at_builtin;refine cW dz rfl (.tmp 66) (.tmp 71) 323 rfl Tryz.underlying323 w.heap.size rfl G [x] _ _ _ rfl rfl rfl (by simp;omega) z.size ?_);intro v' w4 A;go_wp2_with fail;go_roundw;case rel=>exact⟨i+1,k,m++[x],by omega,X,by go_num,rfl,by simp;omega,A.own,F,A.below G z (am _) z.size⟩
        case measure=>simp [intOf];omega
      · have cl:¬(x.w.toNat:Int)<=s:=fun e=>L (HU.out.2 e);have F:Hid (R=(m++[y])++ci (h.drop i) (cX (d.drop (k+2)))):=(by show _=_;rw [D.out,I.out,J.out,ci,ae (by rw [bd.out];exact L)];simp);clear D J I HU L bf;go_upto_region 7 with fail;go_quiet (fail);have G:=B.fr ((Fr.refl wr).drewN nq);have z:=o.trans ((Fr.refl wr).drewN nq);replace Y:=((Fr.refl wr).drewN nq).cell Y;replace c1:=((Fr.refl wr).drewN nq).cell c1;clear B o Z d1 e0 e1;generalize wr.drewN nq=w5 at *;go_wp2_with (at_builtin;refine cW dz rfl (.tmp 75) (.tmp 78) 323 rfl Tryz.underlying323 w.heap.size rfl G [y] _ _ _ (by rw [a0.out]) rfl rfl (by simp;omega) z.size ?_);intro v' w4 A;go_wp2_with fail;go_roundw;case rel=>exact⟨i,k+2,m++[y],hi,a1,rfl,by go_num,by simp;omega,A.own,F,A.below G z (am _) z.size⟩
        case measure=>simp [intOf];omega
    · have av:¬((k+1:Nat):Int)<d.length:=(by omega);have cR:(d.length:Int)<=((k+1:Nat):Int):=(by omega);have F:Hid (R=(m++[x])++ci (h.drop (i+1)) (cX (d.drop k))):=(by have h1:=Dn d k (by omega);show _=_;rw [D.out,h1,ur,ur,J.out];simp);clear D J;go_wp2_with (at_builtin;refine cW dz rfl (.tmp 32) (.tmp 37) 323 rfl Tryz.underlying323 w.heap.size rfl B [x] _ _ _ rfl rfl rfl (by simp;omega) o.size ?_);intro v' w4 A;go_wp2_with fail;go_roundw;case rel=>exact⟨i+1,k,m++[x],by omega,X,by go_num,rfl,by simp;omega,A.own,F,A.below B o (am _) o.size⟩
      case measure=>simp [intOf];omega
  · obtain rfl:i=h.length:=(by omega);have b1:¬(h.length:Int)<h.length:=(by omega);by_cases O:k+1<d.length
    · have av:((k+1:Nat):Int)<d.length:=(by omega);obtain⟨b2,b6,b7,Q,Z,d1⟩:=qO (M.fr o) k (by omega);obtain⟨b3,b9,bA,U,e0,e1⟩:=qO (M.fr o) (k+1) O;rw [Q]at U;cases U;have I:=ad (Do d k O);generalize d[k]=p at *;generalize d[k+1]=q at *;cases Q;have bB:=zZ p.w q.w;generalize K:(⟨p.w+q.w,false,p.syms++q.syms⟩:It)=y at *;have a0:Hid (dz.cells [y]=[.int .u64 ((p.w+q.w).toNat:Int),.bool false]):=(by subst K;rfl);have bL:=nW (p.w+q.w);have bR:=nW p.w;have bT:=nW q.w;clear K;generalize (p.w+q.w).toNat=s at *;generalize p.w.toNat=pw at *;generalize q.w.toNat=qw at *;have j2:(0:Int)<=k:=(by omega);have j3:(k:Int)<d.length:=(by omega);have j4:(0:Int)<=((k+1:Nat):Int):=(by omega);have cj:¬(d.length:Int)<=((k+1:Nat):Int):=(by omega);have a1:k+2<=d.length:=(by omega);have ck:IntKind.i64.wrap ((k:Int)+2)=((k+2:Nat):Int):=(by rw [aw _ (by omega)];omega);have F:Hid (R=(m++[y])++ci (h.drop h.length) (cX (d.drop (k+2)))):=(by show _=_;rw [D.out,I.out,qk,xI,xI];simp);clear D I;go_upto_region 7 with fail;go_quiet (fail);have G:=B.fr ((Fr.refl wr).drewN nq);have z:=o.trans ((Fr.refl wr).drewN nq);clear B o Z d1 e0 e1;generalize wr.drewN nq=w5 at *;go_wp2_with (at_builtin;refine cW dz rfl (.tmp 75) (.tmp 78) 323 rfl Tryz.underlying323 w.heap.size rfl G [y] _ _ _ (by rw [a0.out]) rfl rfl (by simp;omega) z.size ?_);intro v' w4 A;go_wp2_with fail;go_roundw;case rel=>exact⟨h.length,k+2,m++[y],am _,a1,rfl,by go_num,by simp;omega,A.own,F,A.below G z (am _) z.size⟩
      case measure=>simp [intOf];omega
    · have av:¬((k+1:Nat):Int)<d.length:=(by omega);have F:Hid (R=m):=(by have h1:=Dn d k (by omega);show _=_;rw [D.out,h1,qk,ur,gq]);clear D;go_wp2_with fail;go_ret;exact⟨_,rfl,by rw [F.out];exact B,o⟩
theorem Ek(F B base:Nat)(u:Value)(b:List UInt8)(w:World)(A:(dF b).1=0)(d:w.heap[F]?=some (ku B (dF b).1 (cU b).1 (dB b).1 u))(D:Ow w base eB u (ea b).1) :
  Calls Tryz.prog 197 #[.pointer (some ⟨F,0,none⟩)] w fun e J=>∃ x,e=.returned (.tuple #[x,.int .i64 ((dM b).2:Int)])/\ai J eB x (dM b).1/\Fr w J:=by
 have z:Hid (dM b=if(cU b).1=(dB b).1 then((ea b).1,0)else([],2)):=by show _=_;unfold dM;rw [ag A]
 rw [A]at d;have K:=ad D.see;obtain⟨Q,V,rfl⟩:=D.shape';clear A D;generalize dM b=R at *;generalize (cU b).1=o at *;generalize (dB b).1=q at *;generalize (ea b).1=U at *;have X:=af d 1 rfl;have c2:=af d 2 rfl;have Y:=af d 3 rfl;have L:=af d 4 rfl;have M:=ad (fun m=>((Fr.refl w).drewN m).cell L);by_cases h:o=q;· have G:=ad (z.out.trans (ag h));have I:(o:Int)=(q:Int):=(by omega);have O:((o:Int) != (q:Int))=false:=(by simp [I]);clear z d;go_enter Tryz.func197, Tryz.ntmps197;go_wp2_with fail;go_quiet (fail);have Z:=M.out nq;go_wp2_with fail;go_ret2;rw [G.out];exact⟨_,rfl,K.out.fr ((Fr.refl w).drewN nq),(Fr.refl w).drewN nq⟩
 · have G:=ad (z.out.trans (ae h));have I:¬(o:Int)=(q:Int):=(by omega);have O:((o:Int) != (q:Int))=true:=(by simpa using I);clear z d;go_enter Tryz.func197, Tryz.ntmps197;go_wp2_with fail;go_quiet (fail);go_wp2_with fail;go_ret2;rw [G.out];exact⟨_,rfl,ai.nil,(Fr.refl w).drewN _⟩
theorem PO(v:Value)(b:List UInt8)(w:World)(z:ai w eB v b)(G:b.length<=1000000)(ht:bK w)
  (HBy:Hid (∀ F B base u W,W.heap[F]?=some (ku B (dF b).1 (cU b).1 (dB b).1 u)->Ow W base eB u (ea b).1->base<=W.heap.size->jP b=0->Calls Tryz.prog 197 #[.pointer (some ⟨F,0,none⟩)] W fun e m=>∃ x,e=.returned (.tuple #[x,.int .i64 ((dM b).2:Int)])/\ai m eB x (dM b).1/\Fr W m)) :
  Calls Tryz.prog 166 #[v] w fun e m=>Fr w m/\((jP b≠0/\e=.returned (.tuple #[.pointer none,.slice none 0 0,.int .i64 (jP b:Int)]))\/(jP b=0/\∃ F B x u,e=.returned (.tuple #[.pointer (some ⟨F,0,none⟩),x,.int .i64 ((dM b).2:Int)])/\ai m eB x (dM b).1/\m.heap[F]?=some (ku B (dF b).1 (cU b).1 (dB b).1 u)/\ar m 130 B w.heap.size b (gM b).2.at_ 0)):=by
 have aj:=ad (m8 v b w z G);have ak:=ad (fun F B W I J K L=>Qf F B w.heap.size b W I J K G L);have ap:=ad (fun F B W I J K L h5 h6 h7=>Qd F B w.heap.size v b w W z I J K L h5 h6 G h7 ht);have av:=ad (fun B n er W (h:ar W 130 B w.heap.size b n er)=>iE B w.heap.size n er b W h);obtain⟨a0,b0,rfl,_⟩:=z.shape;clear z ht;generalize jP b=E at *;generalize dM b=O at *;generalize (gM b).2.at_=b1 at *;generalize (dF b).1=xw at *;generalize (cU b).1=xn at *;generalize (dB b).1=xp at *;generalize jQ b=sD at *;go_enter Tryz.func166, Tryz.ntmps166;go_wp2_with fail;refine(aj.out).mono ?_;rintro e d ⟨B,rfl,M,Q,hB⟩;have b6:=M.lt;have R:Fr d (d.alloc (.cells #[.pointer (some ⟨B,0,none⟩),.int .i64 0,.int .i64 0,.int .i64 0,.slice none 0 0] 255)):=(Fr.refl d).alloc _;have a2:(d.alloc (.cells #[.pointer (some ⟨B,0,none⟩),.int .i64 0,.int .i64 0,.int .i64 0,.slice none 0 0] 255)).heap[d.heap.size]?=some (ku B 0 0 0 (.slice none 0 0)):=a9 _ _ _ rfl;have a3:=M.fr R;have A:=Q.trans R;have hF:w.heap.size<=d.heap.size:=Q.size;have a4:=ad (ak.out d.heap.size B _ a2 a3 (by omega) A.size);clear aj ak M a2 a3 R Q;go_wp2_with fail;refine(a4.out).mono ?_;rintro e U ⟨rfl,a5,a6,a7⟩;have bm:d.heap.size≠B:=by omega
 generalize d.heap.size=F at *;have q:Fr w U:=ah.below A a7 A.size (fun i e=>by rcases e with e | e <;> omega);have aC:=ad (ap.out F B U q hB hF a5 a6 bm q.size);clear a4 ap a5 a6 a7 A;go_wp2_with fail;refine(aC.out).mono ?_;rintro e w4 ⟨u,rfl,V,ba,X,Y⟩;have bb:Fr w w4:=ah.below q Y q.size (fun i e=>by rcases e with e | e <;> omega);have c4:=af V 0 rfl;have D:=ad (av.out _ _ _ w4 X);have bs:U.heap.size<=w4.heap.size:=Y.size;clear aC av q Y;by_cases o:E=0;· have Z:((E:Nat):Int)=0:=(by omega);have bu:=ad (HBy.out F B _ u w4 V ba bs o);rw [Z]at D;rw [o]at X;have aa:=ad o;clear HBy o Z ba;go_wp2_with fail;refine(D.out).mono ?_;rintro e w5 ⟨rfl,rfl⟩;clear D;go_wp2_with fail;refine(bu.out).mono ?_;rintro e w6 ⟨x,rfl,hx,ab⟩;obtain⟨px,zx,rfl,_⟩:=hx.shape;go_wp2_with fail;go_ret3;exact⟨bb.trans ab,.inr ⟨aa.out,F,B,_,u,rfl,hx,ab.heap V,X.fr ab⟩⟩
 · have Z:¬((E:Nat):Int)=0:=(by omega);have aa:=ad o;clear HBy o;go_wp2_with fail;refine(D.out).mono ?_;rintro e w5 ⟨rfl,rfl⟩;go_wp2_with fail;go_ret3;exact⟨bb,.inl ⟨aa.out,rfl⟩⟩
theorem EV(v:Value)(b:List UInt8)(w:World)(I:ai w eB v b)(hl:b.length<=1000000)(Q:bK w)(U:(dM b).1.length<=1000000)
  (HBy:Hid (∀ F B base u W,W.heap[F]?=some (ku B (dF b).1 (cU b).1 (dB b).1 u)->Ow W base eB u (ea b).1->base<=W.heap.size->jP b=0->Calls Tryz.prog 197 #[.pointer (some ⟨F,0,none⟩)] W fun e m=>∃ x,e=.returned (.tuple #[x,.int .i64 ((dM b).2:Int)])/\ai m eB x (dM b).1/\Fr W m)) :
  Calls Tryz.prog 120 #[v] w fun e m=>∃ u,e=.returned (.tuple #[u,N (aT b).2.1,.int .i64 ((aT b).2.2:Int)])/\Ow m w.heap.size eB u (aT b).1/\Fr w m:=by
 have z:=ad (PO v b w I hl Q HBy.out);have o:Hid (aT b=if jP b=0 then(if(dM b).2=0 then((dM b).1,(gM b).2.at_,0)else([],0,(dM b).2))else([],0,jP b)):=rfl;have V:=ad (fun B n X W (h:ar W 130 B w.heap.size b n X)=>qb B w.heap.size n X b W h);have J:=ad (fun x W (h:ai W eB x (dM b).1)=>jT x _ W h U);obtain⟨a0,a1,rfl,_⟩:=I.shape;clear I Q U HBy;generalize aT b=R at *;generalize jP b=E at *;generalize dM b=O at *;obtain⟨ol,K⟩:=O;generalize (gM b).2.at_=a3 at *;simp only at z o J;go_enter Tryz.func120, Tryz.ntmps120;go_wp2_with fail;refine(z.out).mono ?_;rintro e A ⟨D,⟨d,rfl⟩ | ⟨d,F,B,x,u,rfl,Y,Z,hC⟩⟩;· have q:=ad (o.out.trans (ae d));have j1:¬((E:Nat):Int)=0:=(by omega);clear o d z;go_wp2_with fail;go_ret3;rw [q.out];exact⟨_,rfl,Ow.nil,D⟩
 · have G:=ad (o.out.trans (ag d));obtain⟨px,zx,rfl,_⟩:=Y.shape;clear o z;by_cases h:K=0
   · have q:=ad (G.out.trans (ag h));have L:((K:Nat):Int)=0:=(by omega);rw [L];have c1:=af Z 0 rfl;have aj:=ad (J.out _ A.drew Y.drew);have ak:=ad (fun W (h:Fr A W)=>V.out B _ _ W (hC.fr h));clear G h L d J V Z;go_wp2_with fail
     go_region_held3 (fun W => W.cell? ⟨F, 0, none⟩ = some (.pointer (some ⟨B, 0, none⟩)))
      (first | go_keep)
      ((first
       | (go_at_call 61; refine aj.out.mono ?_; rintro e w2 ⟨u2, rfl, aa, M⟩; obtain ⟨p2, z2, ap⟩ := aa.shape'; subst ap; have c2 := M.cell c1)
       | (go_at_call 121; refine (ak.out _ ((Fr.refl A).drew.trans M)).mono ?_; rintro e w3 ⟨rfl, rfl⟩)))
     go_wp2_with fail;go_ret3;rw [q.out];exact⟨_,rfl,aa.rebase D.size,D.trans ((Fr.refl A).drew.trans M)⟩
   · have q:=ad (G.out.trans (ae h));have L:¬((K:Nat):Int)=0:=(by omega);clear G h d;go_wp2_with fail;go_ret3;rw [q.out];exact⟨_,rfl,Ow.nil,D⟩
theorem Eh(b:List UInt8):(ea b).1.length<=b.length:=by
 show((jQ b).take b (dB b).1).1.length<=_;unfold Cs.take;split
 · split;· exact an _
   · rw [aG,aU];omega
 · exact an _
theorem S9(v:Value)(b:List UInt8)(w:World)(m:ai w eB v b)(o:b.length<=1000000)(q:bK w)(d:(dF b).1=0) :
  Calls Tryz.prog 120 #[v] w fun e h=>∃ u,e=.returned (.tuple #[u,N (aT b).2.1,.int .i64 ((aT b).2.2:Int)])/\Ow h w.heap.size eB u (aT b).1/\Fr w h:=
 EV v b w m o q (by
  unfold dM
  rw [ag d]
  have := Eh b
  split
  · show (ea b).1.length ≤ _; omega
  · exact an _) (fun F B base u W z A _ _ => Ek F B base u b W d z A)
theorem Kz(v:Value)(b:List UInt8)(w:World)(J:ai w eB v b)(hl:b.length<=1000000)(Y:bK w) :
  Calls Tryz.prog 46 #[v] w fun e Z=>∃ u,e=.returned (.tuple #[u,.int .i64 ((be b).2:Int)])/\ai Z eB u (be b).1/\Fr w Z:=by
 have F:=ad (uW v b w J);have M:=ad (fun W (h:Fr w W)=>oQ v b W (J.fr h) hl (Y.fr h));have o:Hid (be b=if(bh b).2=0 then(if(bh b).1=1 then(if bP b=0 then(if(aS b).length<5 then([],1)else((aS b).drop 5,0))else([],bP b))else([],4))else([],(bh b).2)):=rfl;obtain⟨a0,a4,rfl,_⟩:=J.shape;clear J Y;generalize be b=R at *;generalize bh b=mv at *;obtain⟨aa,O⟩:=mv;generalize bP b=Q at *;generalize aS b=q at *;simp only at F o;by_cases U:O=0
 · subst U;by_cases V:aa=1
   · subst V;by_cases X:Q=0
     · subst X;by_cases K:q.length<5;· have A:Hid (R=([],1)):=(by show _=_;rw [o.out,ag rfl,ag rfl,ag rfl,ag K]);have L:(q.length:Int)<5:=(by omega);clear o K;go_enter Tryz.func46, Tryz.ntmps46;go_wp2_with fail;refine(F.out).mono ?_;rintro e B ⟨rfl,d⟩;have G:=ad (M.out B d);go_wp2_with fail;refine(G.out).mono ?_;rintro e w2 ⟨u,rfl,D,I⟩;obtain⟨p,z,rfl⟩:=D.shape';go_wp2_with fail;go_ret2;rw [A.out];exact⟨_,rfl,ai.nil,d.trans I⟩
       · have A:Hid (R=(q.drop 5,0)):=(by show _=_;rw [o.out,ag rfl,ag rfl,ag rfl,ae K]);have L:¬(q.length:Int)<5:=(by omega);clear o;go_enter Tryz.func46, Tryz.ntmps46;go_wp2_with fail;refine(F.out).mono ?_;rintro e B ⟨rfl,d⟩;have G:=ad (M.out B d);go_wp2_with fail;refine(G.out).mono ?_;rintro e w2 ⟨u,rfl,D,I⟩;obtain⟨p,z,rfl⟩:=D.shape';obtain⟨f1,f2,ac,aj⟩:=iy eB 22 Tryz.underlying22 D.see 5 (by omega);have a5:∀ W,(Instr.slice 22 (.slice p q.length z) (some (.int .i64 5)) none none).run Tryz.prog W=.ok (.slice f1 (q.length - 5) f2) W:=ac;have a2:=ad aj;clear ac aj D K;generalize q.length - 5=m at *;go_wp2_with fail;go_ret2;rw [A.out];exact⟨_,rfl,a2.out,d.trans I⟩
     · have A:Hid (R=([],Q)):=(by show _=_;rw [o.out,ag rfl,ag rfl,ae X]);have L:¬(Q:Int)=0:=(by omega);clear o X;go_enter Tryz.func46, Tryz.ntmps46;go_wp2_with fail;refine(F.out).mono ?_;rintro e B ⟨rfl,d⟩;have G:=ad (M.out B d);go_wp2_with fail;refine(G.out).mono ?_;rintro e w2 ⟨u,rfl,D,I⟩;obtain⟨p,z,rfl⟩:=D.shape';go_wp2_with fail;go_ret2;rw [A.out];exact⟨_,rfl,ai.nil,d.trans I⟩
   · have A:Hid (R=([],4)):=(by show _=_;rw [o.out,ag rfl,ae V]);have L:¬(aa:Int)=1:=(by omega);clear o V;go_enter Tryz.func46, Tryz.ntmps46;go_wp2_with fail;refine(F.out).mono ?_;rintro e B ⟨rfl,d⟩;go_wp2_with fail;go_ret2;rw [A.out];exact⟨_,rfl,ai.nil,d⟩
 · have A:Hid (R=([],O)):=(by show _=_;rw [o.out,ae U]);have L:¬(O:Int)=0:=(by omega);clear o U;go_enter Tryz.func46, Tryz.ntmps46;go_wp2_with fail;refine(F.out).mono ?_;rintro e B ⟨rfl,d⟩;go_wp2_with fail;go_ret2;rw [A.out];exact⟨_,rfl,ai.nil,d⟩
def uC(B:Nat)(wr:World):Nat:=match wr.heap[B]? with | some (.cells cs _ _)=>(if intOf (cs.getD 2 undef)=0 then 1 else 0) | _=>0
theorem Dv{w:World}{B base n d:Nat}{T:TypeId}{l:List UInt8}(h:ar w T B base l n d):uC B w=if d=0 then 1 else 0:=by
 obtain⟨⟨v,e,_⟩,_⟩:=h;unfold uC;rw [e];show(if intOf (.int .i64 (d:Int))=0 then 1 else 0)=_;simp [intOf]
theorem M5(l:List UInt8)(h:0<l.length):l.getLastD 0=l[l.length - 1]:=by
 rw [List.getLastD_eq_getLast?,List.getLast?_eq_getElem?,bE (by omega)];rfl
theorem Cn(b:List UInt8)(n:Nat)(s:Cs)(d:List UInt8):(gI b n s d).1<=n - d.length:=by
 show Cs.val _ _<=_;unfold Cs.val;split;· rename_i h;exact(lH _ _ h.2).2.2
 · exact an _
theorem LP(b:List UInt8)(s:Cs):pM b s<256:=by
  show(((s.take b 1).1).getD 0 0).toNat<256;exact kF _
theorem Mq(B base n:Nat)(G:Cs)(b:List UInt8)(w:World)(hc:ar w 130 B base b G.at_ G.er)(hl:b.length<=1000000)(hn:n<=20000)(fb:base<=w.heap.size) :
  Calls Tryz.prog 202 #[.agg #[.pointer (some ⟨B,0,none⟩)],N n] w fun e w'=>∃ u,e=.returned u/\Ow w' w.heap.size eB u (fo b n n G []).1/\ar w' 130 B base b (fo b n n G []).2.at_ (fo b n n G []).2.er/\ah (fun k=>k=B) w w':=by
 have cA:=ad (fun s W (h:ar W 130 B base b s.at_ s.er) hW=>tf B base s b W h hl hW);have cE:=ad (fun b6 (hm:b6<9223372036854775808) s W (h:ar W 130 B base b s.at_ s.er)=>nR b6 hm B base s b W h hl);have b7:=ad (fun n er W h=>iE B base n er b W h);have cL:=ad (fun s W (h:ar W 130 B base b s.at_ s.er)=>pY 2 B base s b W h);obtain⟨R,hR⟩:∃ R,R=fo b n n G []:=⟨_,rfl⟩;rw [<- hR];have D:=ad hR;clear hR;have fc:=hc.lt;have b8:(w.alloc (.cells #[.pointer (some ⟨B,0,none⟩)] 257)).heap[w.heap.size]?=some (.cells #[.pointer (some ⟨B,0,none⟩)] 257 (0,0)):=a9 _ _ _ rfl;have ba:Fr w (w.alloc (.cells #[.pointer (some ⟨B,0,none⟩)] 257)):=(Fr.refl w).alloc _;have b9:w.heap.size+1<=(w.alloc (.cells #[.pointer (some ⟨B,0,none⟩)] 257)).heap.size:=by simp
 have bA:=hc.fr ba;clear hc;go_enter Tryz.func202, Tryz.ntmps202;go_wp2_with fail;generalize w.alloc (.cells #[.pointer (some ⟨B,0,none⟩)] 257)=W0 at *;generalize hg:w.heap.size=g at *;go_loopw [5] (fun ov wr=>∃ (f:Nat) (s:Cs) (d:List UInt8),d.length<=n/\(s.er=0->n<=d.length+f)/\Ow wr (g+1) eB ov d/\ar wr 130 B base b s.at_ s.er/\wr.heap[g]?=some (.cells #[.pointer (some ⟨B,0,none⟩)] 257 (0,0))/\ah (fun k=>k=B) w wr/\g+1<=wr.heap.size/\Hid (R=fo b n f s d)) (fun ov wr=>(n - (match ov with | .slice _ m _=>m | _=>0))*2+uC B wr);case atStart=>exact⟨n,G,[],an _,fun _=>by simp,Ow.nil,bA,b8,ba.chg _,b9,D.out⟩
 case round=>
  clear bA b8 ba b9 D;obtain⟨f,s,d,fk,bc,U,hC,hG,ab,hz,D⟩:=hrel;obtain⟨oa,oc,rfl⟩:=U.shape';have c0:=af hG 0 rfl;have bf:B≠g:=(by omega);have dc:base<=wr.heap.size:=(by have:=ab.size;omega);by_cases bB:d.length<n
  · have i1:(d.length:Int)<n:=(by omega);have ac:=ad (b7.out s.at_ s.er wr hC);by_cases I:s.er=0
    · obtain⟨f2,rfl⟩:∃ f2,f=f2+1:=⟨f - 1,by have:=bc I;omega⟩;have V:Hid (R=fo b n f2 (oF b n s d) (d++List.replicate (gI b n s d).1 (UInt8.ofNat (pM b s)))):=(by show _=_;rw [D.out,fo,ag ⟨bB,I⟩]);have bk:=ad (cA.out s wr hC dc);have dj:uC B wr=1:=(by rw [Dv hC,ag I]);rw [I]at ac;have fl:=Cn b n s d;have fm:=LP b s;have HX:Hid (pM b s=(s.byte b).1):=rfl;have bR:Hid (gI b n s d=(s.byte b).2.int b (n - d.length)):=rfl;have bT:Hid (oF b n s d=if(gI b n s d).2.er=0/\((gI b n s d).1=0\/(0<d.length/\(d.getLastD 0).toNat=pM b s))then⟨(gI b n s d).2.at_,2⟩else(gI b n s d).2):=rfl;have bl:=ad (fun W h=>cE.out (n - d.length) (by omega) (s.byte b).2 W h);have fn:IntKind.i64.wrap ((n:Int) - d.length)=((n - d.length:Nat):Int):=(by rw [aw _ (by omega)];omega);have ca:=ad (fun W h=>cL.out (gI b n s d).2 W h);have cb:Hid ((gI b n s d).2.er=0->(gI b n s d).2.fail 2=⟨(gI b n s d).2.at_,2⟩):=fun h=>(by unfold Cs.fail;rw [ag h]);rw [<- HX.out]at bk;rw [<- bR.out]at bl;have fr:=bc I;have HO:=ad U;have HG:=ad hG;have fv:=hC.cbox;clear U hC hG I D bc HX bR;generalize oF b n s d=J at *;generalize (gI b n s d).1=k at *;generalize (gI b n s d).2=q at *;generalize pM b s=x at *;generalize (s.byte b).2=s1 at *;go_wp2_with fail;refine(ac.out).mono ?_;rintro e w1 ⟨rfl,rfl⟩;go_wp2_with fail;refine(bk.out).mono ?_;rintro e w2 ⟨rfl,dv,bs⟩;have cf:=ad (bl.out w2 dv);have bu:=bs.heap HG.out (fun e=>bf e.symm);have c2:=af bu 0 rfl;clear bk ac bl;go_wp2_with fail;refine(cf.out).mono ?_;rintro e w3 ⟨rfl,ap,bv⟩;have av:=bs.trans bv fun _ _ h=>h;have X:=HO.out.chg av (fun i hi e=>by have:=(HO.out.lt i hi).1;have e:i=B:=e;omega);have a1:=bv.heap bu (fun e=>bf e.symm);have c3:=af a1 0 rfl;have bx:=ab.trans av fun _ _ h=>h;have b0:=az hz av.size;have M:=ad (b7.out q.at_ q.er w3 ap);have b1:=ad (ca.out w3 ap);clear cf c2 bu av bs bv ca HO HG c0;obtain⟨A,Y⟩:∃ A:Bool,A=decide (q.er=0/\(k=0\/(0<d.length/\(d.getLastD 0).toNat=x))):=⟨_,rfl⟩;have b2:Hid (J=if A=true then⟨q.at_,2⟩else q):=(by show _=_;rw [bT.out,Y];simp only [fx]);have d1:Hid (k=0->q.er=0->A=true):=fun h1 h2=>(by rw [Y];exact bt ⟨h2,.inl h1⟩);have ch:Hid (A=true->q.er=0):=fun h=>(by rw [Y]at h;exact(of_decide_eq_true h).1);have O:=ad Y;clear Y bT;go_upto_region 5 with fail;go_cut [50]from 28 to 50 (fun cv K=>cv=.bool A/\w3=K)
      case first=>
       by_cases F:q.er=0
       · rw [F]at M;by_cases a2:k=0;· have o:Hid (A=true):=(by show _=_;rw [O.out];exact bt ⟨F,.inl a2⟩);subst a2;clear F;go_wp2_with fail;refine(M.out).mono ?_;rintro e w4 ⟨rfl,rfl⟩;go_wp2_with fail;go_meet;exact⟨by rw [o.out],rfl⟩
         · have d4:¬(k:Int)=0:=(by omega);have f1:((k:Int) == 0)=false:=(by rw [zh];exact d4);by_cases Z:0<d.length;· obtain⟨b5,o5,p5,d7,e5⟩:=X.see.cell1 Fk.u8 rfl (d.length - 1) (by omega);have ck:=M5 d Z;cases d7;have e6:w3.cell? ⟨b5,o5+(d.length - 1),none⟩=some (.int .u8 (d[d.length - 1].toNat:Int)):=e5;rw [<- ck]at e6;have l0:(0:Int)<d.length:=(by omega);have l1:IntKind.i64.wrap ((d.length:Int) - 1)=(d.length:Int) - 1:=aw _ (by omega);have l2:(0:Int)<=(d.length:Int) - 1:=(by omega);have l3:((d.length:Int) - 1).toNat=d.length - 1:=(by omega);have l4:(d.length:Int) - 1<d.length:=(by omega);have o:Hid (A=decide ((d.getLastD 0).toNat=x)):=(by show _=_;rw [O.out];simp [F,a2,Z]);clear e5 ck O;generalize (d.getLastD 0).toNat=z at *;have cl:((z:Int) == x)=decide (z=x):=(by rw [vG];simp;omega);have dE:=ad cl;clear cl;clear F Z;go_wp2_with fail;refine(M.out).mono ?_;rintro e w4 ⟨rfl,rfl⟩;go_wp2_with fail;go_meet;exact⟨by rw [o.out,<- dE.out],rfl⟩
           · have o:Hid (A=false):=(by show _=_;rw [O.out];exact aX (fun h=>h.2.elim a2 fun h=>Z h.1));have l0:¬(0:Int)<d.length:=(by omega);clear F Z;go_wp2_with fail;refine(M.out).mono ?_;rintro e w4 ⟨rfl,rfl⟩;go_wp2_with fail;go_meet;exact⟨by rw [o.out],rfl⟩
       · have o:Hid (A=false):=(by show _=_;rw [O.out];exact aX (fun h=>F h.1));have dT:¬(q.er:Int)=0:=(by omega);clear F;go_wp2_with fail;refine(M.out).mono ?_;rintro e w4 ⟨rfl,rfl⟩;go_wp2_with fail;go_meet;exact⟨by rw [o.out],rfl⟩
      case rest=>
       obtain⟨rfl,rfl⟩:=hcut;clear M O;go_upto_if 50 with fail;go_cut []from 51 to 54 (fun K=>ar K 130 B base b J.at_ J.er/\Ow K (g+1) eB (.slice oa d.length oc) d/\K.heap[g]?=some (.cells #[.pointer (some ⟨B,0,none⟩)] 257 (0,0))/\ah (fun k=>k=B) w K/\g+1<=K.heap.size/\Hid (k=0->J.er=0->False))
       case first=>
        cases A;· have o:Hid (J=q):=(by show _=_;rw [b2.out];rfl);go_wp2_with fail;go_meet;rw [o.out];exact⟨ap,X,a1,bx,b0,fun L h1=>by have:=d1.out L h1;cases this⟩
        · have o:Hid (J=⟨q.at_,2⟩):=(by show _=_;rw [b2.out];rfl);have cm:=cb.out (ch.out rfl);rw [cm,<- o.out]at b1;clear cm;go_wp2_with fail;refine(b1.out).mono ?_;rintro e w4 ⟨rfl,a3,a4⟩;go_wp2_with fail;go_meet;exact⟨a3,X.chg a4 (fun i hi e=>by have:=(X.lt i hi).1;have e:i=B:=e;omega),a4.heap a1 (fun e=>bf e.symm),bx.trans a4 fun _ _ h=>h,az b0 a4.size,fun _ h=>by rw [o.out]at h;cases h⟩
       case rest=>
        obtain⟨a3,cn,cp,cq,cs,ct⟩:=hcut;clear ap X a1 bx b0 b1 cb ch b2 c3;have ec:(UInt8.ofNat x).toNat=x:=(by rw [lP];omega);have cu:ai (wc.alloc (.cells #[.int .u8 (x:Int)] 5)) eB (.slice (some ⟨wc.heap.size,0,none⟩) 1 1) [UInt8.ofNat x]:=l8 eB wc [UInt8.ofNat x] _ _ 1 rfl (uL x (by omega)) (by simp [maxLen]);have c1:=ad (Ra (UInt8.ofNat x) k (by omega) _ _ cu);have ef:Fr wc (wc.alloc (.cells #[.int .u8 (x:Int)] 5)):=(Fr.refl wc).alloc _;clear cu ec;generalize UInt8.ofNat x=xb at *;go_wp2_with fail;generalize eq:wc.alloc (.cells #[.int .u8 (x:Int)] 5)=W5 at *;refine(c1.out).mono ?_;rintro e w6 ⟨v6,rfl,c5,ev⟩;have aa:=ef.trans ev;have a5:=cn.fr aa;have e0:=a3.fr aa;have c6:=aa.heap cp;have c7:=az cs aa.size;have e1:ah (fun k=>k=B) w w6:=cq.trans (aa.chg _) fun _ _ h=>h;have e2:Hid (d.length+(List.replicate k xb).length<=2147483648):=(by show _<=_;rw [jX];omega);have e3:=ad c5;clear cn a3 cp cq cs c1 eq c5;go_wp2_with (at_builtin;refine jb eB rfl (.tmp 54) (.tmp 58) 22 rfl Tryz.underlying22 (g+1) rfl a5 _ _ rfl e3.out.see e2.out c7 ?_);intro v8 w8 Q;have c8:=e0.behind a5 Q (by omega);have e7:=Q.chg'.heap c6 (fun e=>a5.ne_cells c6 (by decide) e);have e8:ah (fun i=>i=B) w w8:=e1.trans Q.chg' fun i hi e=>(by have:=(a5.lt i e).1;omega);have e9:=az c7 Q.size;obtain⟨va,vc,c9⟩:=Q.own.shape';rw [aD,jX]at c9;subst c9;have eL:=Dv c8;go_wp2_with fail;go_roundw
        case rel => exact ⟨f2, J, d ++ List.replicate k xb, by rw [aD, jX]; omega, fun h => by
         have := ct.out;rw [aD, jX];rcases jU k with L | L;· exact absurd h (fun h => this L h)
         · omega, Q.own, c8, e7, e8, e9, V.out⟩
        case measure=>
         rw [eL,dj];show(n - (d.length+k))*2+_<(n - d.length)*2+1;rcases jU k with L | L;· rw [ae (fun h=>ct.out L h)];omega
         · split <;> omega
    · have V:Hid (R=(d,s)):=by
        show _=_;rw [D.out]
        cases f with
        | zero=>rfl
        | succ f=>rw [fo,ae (fun h=>I h.2)]
      have dT:¬(s.er:Int)=0:=(by omega);clear D;go_wp2_with fail;refine(ac.out).mono ?_;rintro e w1 ⟨rfl,rfl⟩;go_wp2_with fail;go_ret;rw [V.out];exact⟨_,rfl,U.rebase (by omega),hC,ab⟩
  · have V:Hid (R=(d,s)):=by
      show _=_;rw [D.out]
      cases f with
      | zero=>rfl
      | succ f=>rw [fo,ae (fun h=>bB h.1)]
    have i1:¬(d.length:Int)<n:=(by omega);clear D;go_wp2_with fail;go_ret;rw [V.out];exact⟨_,rfl,U.rebase (by omega),hC,ab⟩
def mo(l:List UInt8)(k:Nat)(n:Nat):List Nat:=(List.range n).map fun i=>Fk.aI l (k*i) k
theorem Co(l:List UInt8)(k n:Nat):(mo l k n).length=n:=by simp [mo]
theorem Cp(l:List UInt8)(k n i:Nat)(h:i<(mo l k n).length):(mo l k n)[i]=Fk.aI l (k*i) k:=by simp [mo]
theorem LS(B base n m k:Nat)(l:List UInt8)(w:World)(A:dC w B base l n 0)(hl:l.length<=1000000)(hk:k<=14)(hm:m<=20000)(D:base<=w.heap.size)(hB:B<w.heap.size) :
  Calls Tryz.prog 261 #[.pointer (some ⟨B,0,none⟩),N m,N k] w fun e I=>∃ u,e=.returned (.tuple #[u,.int .i64 ((if n<m*k then 1 else 0:Nat):Int)])/\(n<m*k->Qt w I)/\(m*k<=n->Ow I w.heap.size eU u (mo l k m)/\dC I B base l n (m*k)/\ah (fun b=>b=B) w I):=by
 have U:=ad (pZ B base n 0 l w A hl);have cc:n<=8000000:=by have:=A.eq;omega
 have aj:m*k<=20000*14:=bJ hm hk;have cf:IntKind.i64.wrap ((m:Int)*k)=((m*k:Nat):Int):=by rw [aw _ (by rw [<- qp];omega)];simp
 by_cases h:n<m*k;· rw [ag h];have k3:(n:Int)<((m*k:Nat):Int):=(by omega);have J:=ad h;clear A h aj;generalize m*k=mk at *;go_enter Tryz.func261, Tryz.ntmps261;go_wp2_with fail;refine(U.out).mono ?_;rintro e d ⟨rfl,F⟩;go_wp2_with fail;go_ret2;exact⟨_,rfl,fun _=>F,fun h=>absurd h (by have:=J.out;omega)⟩
 · rw [ae h];have k3:¬(n:Int)<((m*k:Nat):Int):=(by omega);have HG:=ad (fun i (V:i<m) W (hW:dC W B base l n (i*k))=>EL B base n (i*k) k l W hW hl (by omega));have X:Hid (∀ i,i<m->¬n<i*k+k):=fun i V=>(by have o:(i+1)*k<=m*k:=dm _ (by omega);rw [iGQb]at o;omega);have bm:Hid (∀ i,i*k+k=(i+1)*k):=fun i=>(iGQb i k).symm;have bs:Hid (∀ i,Fk.aI l (i*k) k<65536):=fun i=>(by have o:=nD l (i*k) k;have h2:(2:Nat) ^ k<=2 ^ 14:=ep (by omega) hk;omega);have bu:=ad (Co l k m);have bv:Hid (∀ i (h:i<(mo l k m).length),(mo l k m)[i]=Fk.aI l (i*k) k):=fun i h=>(by rw [Cp,gw]);have bx:=oE eU rfl rfl 231 Tryz.underlying231 .i64 .i64 m (by omega);have J:=ad h;have HC:=ad A;clear A h aj;generalize mo l k m=R at *;generalize hM:m*k=mk at *;have HM:=ad hM;clear hM;have hd:decide (n<mk)=false:=aX J.out;go_enter Tryz.func261, Tryz.ntmps261;go_wp2_with fail;refine(U.out).mono ?_;rintro e d ⟨rfl,F⟩;have a0:=HC.out.fr F.fr;have a1:=ad (pL (base:=d.heap.size) eU rfl rfl m (by omega) d (am _));have Y:Fr d (d.alloc (.cells (madeCells #[eU.z] m) eU.e)):=(Fr.refl d).alloc _;have a2:=a0.fr Y;have b1:=F.fr.size;rw [show(eU:au Tryz.prog Nat).e=235 from rfl]at *;generalize madeCells #[eU.z] m=T0 at *;have a4:d.heap.size<(d.alloc (.cells T0 235)).heap.size:=(by simp);go_wp2_with fail;generalize d.alloc (.cells T0 235)=w2 at *;have a5:=F.fr.trans Y;generalize b2:d.heap.size=q at *;have a6:=a1.out;clear a1 bx Y a0 HC U b2;go_loopw [22] (fun Z wr=>∃ i:Nat,i<=m/\Z=N i/\Ow wr q eU (.slice (some ⟨q,0,none⟩) m m) (R.take i++List.replicate (m - i) 0)/\dC wr B base l n (i*k)/\ah (fun b=>b=B) w wr/\q<wr.heap.size) (fun Z _=>m - (intOf Z).toNat);case atStart=>exact⟨0,an _,rfl,by simp only [ld,kI,Nat.sub_zero];exact a6,by rw [Nat.zero_mul];exact a2,a5.chg _,a4⟩
   case round=>
    clear a6 a2 a5 a4;obtain⟨i,V,rfl,G,hC,a7,hz⟩:=hrel;have aC:R.length=m:=bu.out;by_cases z:i<m
    · have aa:=ad (HG.out i z wr hC);rw [ae (X.out i z),ae (X.out i z),ae (X.out i z),bm.out]at aa;have HX:=ad (bv.out i (by omega));have hx:=bs.out i;have ba:=uA R (0:Nat) m i aC V;have K:∃ cs,wr.heap[B]?=some (.cells cs 400 (0,0)):=(by obtain⟨⟨v,o,_⟩,_⟩:=hC;exact⟨_,o⟩);obtain⟨cn,K⟩:=K;have bb:q≠B:=fun e=>G.ne_cells K (by decide) (by rw [e];rfl);generalize Fk.aI l (i*k) k=x at *;have cp:IntKind.u16.wrap (x:Int)=(x:Int):=(by simp [IntKind.wrap,IntKind.bits,IntKind.signed];omega);have i1:(0:Int)<=i:=(by omega);have i2:(i:Int)<m:=(by omega);have HO:=ad G;clear G hC;go_wp2_with fail;refine(aa.out).mono ?_;rintro e L ⟨rfl,b6,M⟩;have O:=HO.out.chg M (fun b D e=>bb (by simp [Value.ownBlock]at D;omega));obtain⟨k0,k1⟩:=O.cellAt (fun n:Nat=>Value.int .u16 (n:Int)) rfl i (by rw [ba];exact z);have bc:=O.set (fun n:Nat=>Value.int .u16 (n:Int)) rfl i (by rw [ba];exact z) x (.int .u16 (x:Int)) rfl;rw [uz R 0 m i aC z _ HX.out]at bc;have Q:=ao L ⟨q,i,none⟩ (.int .u16 (x:Int));have b7:dC (L.setCell ⟨q,i,none⟩ (.int .u16 (x:Int))) B base l n ((i+1)*k):=by
       obtain⟨⟨v,g1,g2⟩,g3,g4⟩:=b6;have bB:=Q.heap g1 (fun e=>bb e.symm);have bL:v.ownBlock≠some q:=fun e=>by
        rcases jg g2 O (by decide)with h | h;· rw [h]at e;cases e
        · exact h e
       exact⟨⟨v,bB,g2.chg Q (fun b D e=>bL (by rw [D,show b=q from e]))⟩,g3,g4⟩
      have bR:ah (fun b=>b=B) w (L.setCell ⟨q,i,none⟩ (.int .u16 (x:Int))):=(a7.trans M fun _ _ h=>h).trans (G':=fun b=>b=q) Q fun b D e=>(by have e:b=q:=e;omega);have bT:q<(L.setCell ⟨q,i,none⟩ (.int .u16 (x:Int))).heap.size:=(by simp [World.setCell];have:=M.size;omega);clear O Q M K aa;go_wp2_with fail;go_roundw;case rel=>exact⟨i+1,by omega,by go_num,bc,b7,bR,bT⟩
      case measure=>simp [intOf];omega
    · obtain rfl:i=m:=(by omega);have c0:¬((i:Int)<i):=(by omega);have ca:Ow wr w.heap.size eU (.slice (some ⟨q,0,none⟩) i i) R:=(by have o:=G.rebase b1;rw [gu,vzQb,gq,eC (by omega)]at o;exact o);rw [HM.out]at hC;clear G;go_wp2_with fail;go_ret2;refine⟨.slice (some ⟨q,0,none⟩) i i,rfl,?_⟩;exact⟨fun h=>absurd h J.out,fun _=>⟨ca,hC,a7⟩⟩
theorem Bg{d:Func}{t u v x:Tmp}(h:d.results=#[.tmp t,.tmp u,.tmp v,.tmp x])(tmps:Array Value)(P:Program)(w:World) :
  (results d tmps).run P w=.ok (.tuple #[tmps.getD t undef,tmps.getD u undef,tmps.getD v undef,tmps.getD x undef]) w:=by
 simp [results,h]
theorem Cm(b:List UInt8)(n f:Nat)(s:Cs)(d:List UInt8)(h:¬s.er=0):fo b n f s d=(d,s):=by
 cases f with
 | zero=>rfl
 | succ f=>rw [fo,ae (fun e=>h e.2)]
theorem Rc (n : Nat) (Z : n ≤ 20000) (v : Value) (b : List UInt8) (w : World) (F : ai w eB v b) (G : b.length ≤ 1000000) :
    Calls Tryz.prog 171 #[N n,v] w fun e I=>∃ u t,e=.returned (.tuple #[u,t,N (dY n b).2.2.1,.int .i64 ((dY n b).2.2.2:Int)])/\Ow I w.heap.size eQ u (dY n b).1/\Ow I w.heap.size eB t (dY n b).2.1/\Fr w I:=by
  have aa:=ad (m8 v b w F G);have ab:=ad (fun B base W (h:ar W 130 B base b 0 0)=>Jh B base n ⟨0,0⟩ b W h G Z);have ac:=ad (fun B base s W (h:ar W 130 B base b s.at_ s.er) hb=>Mq B base n s b W h G Z hb);have a7:=ad (fun B base n J W h=>iE B base n J b W h);have aC:=ad (fun B base n J W h=>qb B base n J b W h);have m:Hid (dY n b=if(fo b n n (eP b n ⟨0,0⟩ 0 []).2 []).2.er=0 then((eP b n ⟨0,0⟩ 0 []).1,(fo b n n (eP b n ⟨0,0⟩ 0 []).2 []).1,(fo b n n (eP b n ⟨0,0⟩ 0 []).2 []).2.at_,0)else([],[],0,(fo b n n (eP b n ⟨0,0⟩ 0 []).2 []).2.er)):=rfl;have n1:¬(n:Int)<0:=(by omega);have n2:¬(20000:Int)<n:=(by omega);obtain⟨a0,bv,rfl,_⟩:=F.shape;clear F;generalize dY n b=R at *;generalize eP b n ⟨0,0⟩ 0 []=T at *;go_enter Tryz.func171, Tryz.ntmps171;go_wp2_with fail;refine(aa.out).mono ?_;rintro e d ⟨B,rfl,hC,aj,hB⟩;have b0:=hC.lt;have K:(d.alloc (.cells #[.pointer (some ⟨B,0,none⟩)] 257)).heap[d.heap.size]?=some (.cells #[.pointer (some ⟨B,0,none⟩)] 257 (0,0)):=a9 _ _ _ rfl;have L:Fr d (d.alloc (.cells #[.pointer (some ⟨B,0,none⟩)] 257)):=(Fr.refl d).alloc _;have ii:=hC.fr L;have c0:(d.alloc (.cells #[.pointer (some ⟨B,0,none⟩)] 257)).cell? ⟨d.heap.size,0,none⟩=some (.pointer (some ⟨B,0,none⟩)):=(by rw [aA K];rfl);clear hC aa;have b1:=L.size;have ak:B≠d.heap.size:=(by omega);go_wp2_with fail;generalize d.alloc (.cells #[.pointer (some ⟨B,0,none⟩)] 257)=W0 at *;have av:=ad (ab.out B _ W0 ii);refine(av.out).mono ?_;rintro e w2 ⟨u,rfl,o,M,q⟩;have O:=q.heap K (fun e=>ak e.symm);have c2:=af O 0 rfl;have b2:=q.size;have b3:=aj.size;have a2:=ad (ac.out B _ T.2 w2 M (by omega));obtain⟨ua,uc,rfl⟩:=o.shape';clear ab av ii K c0;go_wp2_with fail;refine(a2.out).mono ?_;rintro e z ⟨t,rfl,Q,U,A⟩;have bb:=A.heap O (fun e=>ak e.symm);have c3:=af bb 0 rfl;have a3 := o.chg A (fun i hi e => by
    obtain ⟨cs, h5⟩ := M.cbox
    exact o.ne_cells h5 (by decide) (by rw [hi, show i = B from e]))
  have a4:ah (fun b=>b=B) w z:=(((aj.trans L).chg (fun b=>b=B)).trans q fun _ _ h=>h).trans A fun _ _ h=>h;have a5:Fr w z:=a4.fr fun k hk e=>(by omega);have X:=ad (a7.out B _ _ _ z U);have bf:=ad (aC.out B _ _ _ z U);have bk:=a3.rebase (show w.heap.size<=W0.heap.size by omega);have bl:=Q.rebase (show w.heap.size<=w2.heap.size by omega);obtain⟨ta,tc,rfl⟩:=Q.shape';clear a2 ac o M O c2 a3 Q U q A a4;generalize fo b n n T.2 []=V at *;by_cases D:V.2.er=0;· rw [ag D]at m;have Y:((V.2.er:Nat):Int)=0:=(by omega);rw [Y]at X;clear D Y;go_wp2_with fail;refine(X.out).mono ?_;rintro e w4 ⟨rfl,rfl⟩;go_wp2_with fail;refine(bf.out).mono ?_;rintro e w4 ⟨rfl,rfl⟩;go_wp2_with fail;(try simp only [Exit.inBlock,Exit.then]);refine aL (Bg rfl _ _ _) rfl ?_;rw [m.out];exact⟨_,_,rfl,bk,bl,a5⟩
  · rw [ae D]at m;have Y:¬(V.2.er:Int)=0:=(by omega);clear D;go_wp2_with fail;refine(X.out).mono ?_;rintro e w4 ⟨rfl,rfl⟩;go_wp2_with fail;(try simp only [Exit.inBlock,Exit.then]);refine aL (Bg rfl _ _ _) rfl ?_;rw [m.out];exact⟨_,_,rfl,Ow.nil,Ow.nil,a5⟩
end Go.Proofs.YtfpijnhhdfoohaaGreatDoor
