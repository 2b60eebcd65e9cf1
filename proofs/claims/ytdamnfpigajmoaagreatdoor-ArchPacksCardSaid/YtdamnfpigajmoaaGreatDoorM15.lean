/- Parts of the proof of ArchPacks: Dr1 N4 C3 C2 Na Nb Nc Nd Ne Nf Ng Ca Cb Cc Cd Ce O4 De Df. -/
import Derived.Test.YtdamnfpigajmoaaGreatDoorM14
import Derived.Test.YtdamnfpigajmoaaGreatDoorM05
import Derived.Test.YtdamnfpigajmoaaGreatDoorM01
import Derived.Test.YtdamnfpigajmoaaGreatDoorM11
import Derived.Test.YtdamnfpigajmoaaGreatDoorM12
import Derived.Test.YtdamnfpigajmoaaGreatDoorM10
set_option linter.unusedVariables false
set_option linter.unusedSectionVars false
set_option linter.unusedSimpArgs false
set_option maxHeartbeats 8000000
set_option maxRecDepth 100000
namespace Go.Fk
abbrev kKQb:=@List.length_range
abbrev pTQb:=@List.ext_getElem?
end Go.Fk
namespace Go.Proofs.YtdamnfpigajmoaaGreatDoor
open Go.RowKit Go.Fk
def gi(d:List Nat)(e:Nat->List UInt8)(k:Nat):List UInt8:=((List.range k).map fun i=>ao (d.getD i 0)++ao (e i).length).flatten
theorem yl(d:List Nat)(e:Nat->List UInt8)(k:Nat)(h:k<d.length):gi d e (k+1)=gi d e k++ao d[k]++ao (e k).length:=by
 unfold gi;rw [jt,fN,ly];simp [h]
def io(d:List Nat)(e:Nat->List UInt8)(a b:Nat):List UInt8:=(((ao d.sum++ao d.length)++gi d e d.length)++ao a)++ao b
theorem kX(d:List Nat)(k:Nat):(d.take k).sum<=d.sum:=by
 conv=>rhs;rw [<- kI k d]
 rw [rW];omega
theorem qP(d:List Nat)(e:Nat->List UInt8)(b:Nat)(q:b<1000000)(h:∀ k,(e k).length<=b)(o:∀ x∈d,x<1000000)(k:Nat):(gi d e k).length<=k*20:=by
 unfold gi;rw [fU];refine aq (kk _ 20 _ fun i _=>?_) ?_
 · have y:=aG (e i).length (by have:=h i;omega);have z:d.getD i 0<1000000:=by
    by_cases m:i<d.length;· simp only [cD,bo m];exact o _ (aH m)
    · simp [cD,gJ (by omega:d.length<=i)]
   have A:=aG (d.getD i 0) (by omega);show(ao (d.getD i 0)++ao (e i).length).length<=20;rw [an];omega
 · rw [kKQb];exact ag _
theorem A5(o:be)(w:World):Calls Tryz.prog 61 #[aK o] w fun e w'=>e=.returned (.int .i64 (if dF o then 0 else 9))/\Fr w w':=by
 have d:=ad (fun W=>vq ⟨o.b,o.plain,o.bu,0,0,0⟩ ⟨rfl,rfl,rfl⟩ W);have h:Hid ((if dF ⟨o.b,o.plain,o.bu,0,0,0⟩then(0:Int)else 9)=if dF o then 0 else 9):=rfl;rw [h.out]at d;generalize (if dF o then(0:Int)else 9)=R at *;go_enter Tryz.func61, Tryz.ntmps61;go_wp2_with fail;refine(d.out _).mono ?_;rintro e q ⟨rfl,m⟩;go_wp2_with fail;go_ret;exact⟨rfl,((Fr.refl w).alloc _).trans m⟩
theorem yi(o:be)(w:World):Calls Tryz.prog 79 #[aK o] w fun e w'=>e=.returned (.int .i64 (if dF o then 0 else 9))/\Fr w w':=by
 have d:=ad (fun W=>J6 ⟨o.b,o.plain,o.bu,0,0,0⟩ ⟨rfl,rfl,rfl⟩ W);have h:Hid ((if dF ⟨o.b,o.plain,o.bu,0,0,0⟩then(0:Int)else 9)=if dF o then 0 else 9):=rfl;rw [h.out]at d;generalize (if dF o then(0:Int)else 9)=R at *;go_enter Tryz.func79, Tryz.ntmps79;go_wp2_with fail;refine(d.out _).mono ?_;rintro e q ⟨rfl,m⟩;go_wp2_with fail;go_ret;exact⟨rfl,((Fr.refl w).alloc _).trans m⟩
theorem dL{w:World}{v:Value}{l:List Nat}(h:af w eJ v l)(k:Nat)(e:k<l.length):∃ b d m,v=.slice (some ⟨b,d,none⟩) l.length m/\w.cell? ⟨b,d+k,none⟩=some (N l[k]):=h.cell1 N rfl k e
theorem jQ(l:List Nat)(k:Nat)(h:k<l.length):(l.take (k+1)).sum=(l.take k).sum+l[k]:=by
 rw [cL h,rW];simp
theorem I2(v:Value)(l:List Nat)(w:World)(h:af w eJ v l)(R:l.length<=1000000)(U:l.sum<=1000000000) :
  Calls Tryz.prog 109 #[v] w fun e w'=>e=.returned (N l.sum)/\w=w':=by
 have F:=ad (fun k o=>dL h k o);have q:=ad (kX l);have G:=ad (jQ l);have I:Hid ((l.take l.length).sum=l.sum):=by show _=_;rw [cu]
 obtain⟨V,X,rfl,Y,J,Z⟩:=h.shape;unfold maxLen at J;generalize l.sum=T at *;go_enter Tryz.func109, Tryz.ntmps109;go_wp2_with fail;go_loopw [3,8] (fun K d wr=>∃ k:Nat,k<=l.length/\d=N k/\K=N (l.take k).sum/\w=wr) (fun _ d _=>l.length - (intOf d).toNat);case atStart=>exact⟨0,ap _,rfl,by simp,rfl⟩
 case round=>
  obtain⟨k,o,rfl,rfl,rfl⟩:=hrel;have h1:=q.out k;by_cases y:k<l.length;· obtain⟨b,ab,ac,L,c0⟩:=F.out k y;cases L;have M:=ad (G.out k y);have h2:=q.out (k+1);generalize z:(l.take (k+1)).sum=O at *;have Q:=ad z;clear z;generalize (l.take k).sum=m at *;generalize l[k]=x at *;have A:O=m+x:=M.out;have i1:(0:Int)<=k:=(by omega);have i2:(k:Int)<l.length:=(by omega);have D:=ad A;clear A;have hw:IntKind.i64.wrap ((m:Int)+x)=(m:Int)+x:=ar _ (by have:=D.out;omega);go_wp2_with fail;exact⟨⟨k+1,by omega,by go_num,by rw [Q.out,D.out];go_num,by first | rfl | trivial⟩,by simp [intOf];omega⟩
  · obtain rfl:k=l.length:=(by omega);have a4:¬(l.length:Int)<l.length:=(by omega);rw [I.out];go_wp2_with fail;go_ret;exact⟨rfl,rfl⟩
def ic(d:Nat->List UInt8)(k:Nat):List Nat:=(List.range k).map fun i=>(d i).length
theorem Hf (g : Nat) (cv sv : Value) (d : List Nat) (o : Nat → List UInt8) (a b : Nat) (w : World) (hg : w.heap[g]? = some (.cells #[cv, sv, N a, N b] 95 (0, 0))) (hc : af w eJ cv d) (hs : af w eJ sv (ic o d.length))
    (hl:d.length<=60) (hsum:d.sum<=60) (hfr:∀ k,(o k).length<=6025) (ha:a<=1000000) (hb:b<=1000000) :
    Calls Tryz.prog 65 #[.pointer (some ⟨g,0,none⟩)] w fun e w'=>∃ u,e=.returned u/\Ow w' w.heap.size eB u (io d o a b)/\Fr w w':=by
  have V:=ad (fun n (h:n<18446744073709551616) W=>jK n h W);have bR:=ad (fun W (h:af W eJ cv d)=>I2 cv d W h (by omega) (by omega));have bm:∀ x∈d,x<=60:=fun x hx=>(by obtain⟨i,hi,rfl⟩:=mK.1 hx;have h1:=kX d (i+1);rw [jQ d i hi]at h1;omega);have cF:=ad bm;have cb:=ad (fun k=>qP d o 6025 (by omega) hfr (fun x hx=>by have:=bm x hx;omega) k);have cG:=ad (fun k h=>yl d o k h);have HD:Hid (io d o a b=(((ao d.sum++ao d.length)++gi d o d.length)++ao a)++ao b):=rfl;have da:Hid (gi d o 0=[]):=rfl;have dc:=ad hfr;have dd:Hid (∀ k (h:k<d.length) (h2:k<(ic o d.length).length),(ic o d.length)[k]=(o k).length):=fun k h h2=>(by simp [ic]);have bu:(ic o d.length).length=d.length:=(by simp [ic]);have HC:=ad (fun W (h:Fr w W) k hk=>dL (hc.fr h) k hk);have HS:=ad (fun W (h:Fr w W) k hk=>dL (hs.fr h) k hk);have dl:=ad (fun W (h:Fr w W)=>hc.fr h);have cf:=ad bu;obtain⟨ca,cc,rfl,_⟩:=hc.shape;obtain⟨X,sc,cl,_⟩:=hs.shape;rw [bu]at cl;subst cl;have HG:=ad (fun W (h:Fr w W)=>h.heap hg);clear hc hs bm hfr bu;generalize hT:io d o a b=T at *;clear hT;have x0:=ae hg 0 rfl;have bv:=aG d.sum (by omega);have bx:=aG d.length (by omega);have L:=ad (V.out d.sum (by omega));have Y:=ad (V.out d.length (by omega));have cn:=fun W va vb X sb=>uQ va vb (ao d.sum) (ao d.length) W X sb (by omega);have M:=ad cn;have co:Hid (∀ m,m=(ao d.sum++ao d.length)->m.length<=20):=fun m h=>(by rw [h,an];omega);clear cn;generalize d.sum=S0 at *;have bz:IntKind.u64.wrap (S0:Int)=(S0:Int):=aX _ (by omega);have e2:IntKind.u64.wrap (d.length:Int)=(d.length:Int):=aX _ (by omega);go_enter Tryz.func65, Tryz.ntmps65;go_upto_region 1 with fail
  go_region_held3 (fun w' => w'.cell? ⟨g, 0, none⟩ = some (.slice ca d.length cc))
    (first | go_keep)
    ((first
      | (go_at_call 109; refine (bR.out _ (dl.out _ (Fr.refl w).drew)).mono ?_; rintro e w1 ⟨rfl, rfl⟩)
      | (go_at_call_of 31 (Value.int IntKind.u64 (S0 : Int)); refine (L.out _).mono ?_; rintro e w2 ⟨v2, rfl, F, A⟩; obtain ⟨p2, z2, a0⟩ := F.shape'; subst a0; have O := A.cell x0)
      | (go_at_call_of 31 (Value.int IntKind.u64 (d.length : Int)); refine (Y.out _).mono ?_; rintro e w3 ⟨v3, rfl, G, z⟩; obtain ⟨p3, z3, a1⟩ := G.shape'; subst a1; have Q := z.cell O)
      | (go_at_call 30; refine (M.out _ _ _ (F.fr z).see G.see).mono ?_; rintro e w4 ⟨v4, rfl, J, D⟩; have u0 := D.cell Q)))
  have cz:Fr w w4:=(Fr.refl w).drew.trans (A.trans (z.trans D));obtain⟨R,b3⟩:∃ R,R=ao S0++ao d.length:=⟨_,rfl⟩;have e4:=co.out R b3;rw [<- b3]at J HD;have Z:Ow w4 w.heap.size eB v4 R:=(by exact J.rebase (by have:=((Fr.refl w).drew.trans (A.trans z)).size;exact this));clear b3 co M L Y bR F G J A z D x0 O Q bv bx bz;have c4:w4.cell? ⟨g,0,none⟩=some (.slice ca d.length cc):=u0;clear u0;obtain⟨p4,z4,rfl⟩:=Z.shape';go_wp2_with fail;go_loopw [3,27] (fun ov iv wr=>∃ k:Nat,k<=d.length/\iv=N k/\Ow wr w.heap.size eB ov (R++gi d o k)/\Fr w wr) (fun _ iv _=>d.length - (intOf iv).toNat);case atStart=>exact⟨0,ap _,rfl,by rw [da.out,dm];exact Z,cz⟩
  case round=>
    clear Z cz c4;obtain⟨k,hk,rfl,U,hf⟩:=hrel;have bc:=HG.out wr hf;have c0:=cb.out k;by_cases a4:k<d.length
    · have x1:=ae bc 1 rfl;obtain⟨b1,e6,e7,d5,d1⟩:=HC.out wr hf k a4;cases d5;obtain⟨b2,c5,e9,c6,d2⟩:=HS.out wr hf k (by rw [cf.out];exact a4);rw [cf.out]at c6;cases c6;rw [dd.out k a4]at d2;have fa:=cF.out _ (aH a4);have fb:=dc.out k;have HN:=ad (cG.out k a4);have d8:=cb.out (k+1);generalize c7:gi d o (k+1)=q2 at *;have d9:=ad c7;clear c7;generalize gi d o k=q at *;generalize d[k]=x at *;generalize (o k).length=y at *;have L:=ad (V.out x (by omega));have Y:=ad (V.out y (by omega));have bv:=aG x (by omega);have bx:=aG y (by omega);have dT:k*20<=60*20:=cW _ (by omega);obtain⟨I,K⟩:∃ I,I=R++q:=⟨_,rfl⟩;rw [<- K]at U;have ec:I.length<=1300:=(by rw [K,an];omega);have ef:=ad K;have M:=ad (fun W va vb vc X sb sc=>uO va vb vc I (ao x) (ao y) W X sb sc (by omega));clear K c0 d8 dT;have bz:IntKind.u64.wrap (x:Int)=(x:Int):=aX _ (by omega);have ek:IntKind.u64.wrap (y:Int)=(y:Int):=aX _ (by omega);have i1:(0:Int)<=k:=(by omega);have i2:(k:Int)<d.length:=(by omega);obtain⟨oa,oc,rfl⟩:=U.shape';go_upto_region 5 with fail
      go_region_held3 (fun w' => w'.cell? ⟨g, 1, none⟩ = some (.slice (some ⟨b2, c5, none⟩) d.length sc) ∧ w'.cell? ⟨b2, c5 + k, none⟩ = some (N y))
        (first | go_keep)
        ((first
          | (go_at_call_of 31 (Value.int IntKind.u64 (x : Int)); refine (L.out _).mono ?_; rintro e w2 ⟨v2, rfl, F, A⟩; obtain ⟨p2, z2, a0⟩ := F.shape'; subst a0; have O := A.cell x1; have y1 := A.cell d2)
          | (go_at_call_of 31 (Value.int IntKind.u64 (y : Int)); refine (Y.out _).mono ?_; rintro e w3 ⟨v3, rfl, G, z⟩; obtain ⟨p3, z3, a1⟩ := G.shape'; subst a1; have Q := z.cell O; have z1 := z.cell y1)
          | (go_at_call 30; refine (M.out _ _ _ _ (U.see.fr ((Fr.refl wr).drew.trans (A.trans z))) (F.fr z).see G.see).mono ?_; rintro e w4 ⟨v4, rfl, J, D⟩; have u0 := D.cell Q; have u1 := D.cell z1)))
      have aa:Fr w w3:=hf.trans ((Fr.refl wr).drew.trans (A.trans z));have ev:=aa.trans D;have Z:=J.rebase aa.size;obtain⟨p4,z4,rfl⟩:=Z.shape';clear x1 d1 d2 O y1 Q z1 u0 u1 F G J U A z D aa bc;go_wp2_with fail;go_roundw;case rel=>exact⟨k+1,by omega,by go_num,by rw [d9.out,HN.out,<- eE,<- eE,<- ef.out];exact Z,ev⟩
      case measure=>simp [intOf];omega
    · obtain rfl:k=d.length:=(by omega);have fl:¬(d.length:Int)<d.length:=(by omega);have x2:=ae bc 2 rfl;have x3:=ae bc 3 rfl;obtain⟨I,K⟩:∃ I,I=R++gi d o d.length:=⟨_,rfl⟩;rw [<- K]at U HD;have ec:I.length<=1300:=(by rw [K,an];have:d.length*20<=60*20:=cW _ hl;omega);have L:=ad (V.out a (by omega));have Y:=ad (V.out b (by omega));have bv:=aG a (by omega);have bx:=aG b (by omega);have M:=ad (fun W va vb vc X sb sc=>uO va vb vc I (ao a) (ao b) W X sb sc (by omega));rw [<- HD.out]at M;clear K c0;have bz:IntKind.u64.wrap (a:Int)=(a:Int):=aX _ (by omega);have ek:IntKind.u64.wrap (b:Int)=(b:Int):=aX _ (by omega);obtain⟨oa,oc,rfl⟩:=U.shape';go_upto_region 7 with fail
      go_region_held3 (fun w' => w'.cell? ⟨g, 2, none⟩ = some (N a) ∧ w'.cell? ⟨g, 3, none⟩ = some (N b))
        (first | go_keep)
        ((first
          | (go_at_call 31; refine (L.out _).mono ?_; rintro e w2 ⟨v2, rfl, F, A⟩; obtain ⟨p2, z2, a0⟩ := F.shape'; subst a0; have O := A.cell x2; have y1 := A.cell x3; clear L)
          | (go_at_call 31; refine (Y.out _).mono ?_; rintro e w3 ⟨v3, rfl, G, z⟩; obtain ⟨p3, z3, a1⟩ := G.shape'; subst a1; have Q := z.cell O; have z1 := z.cell y1)
          | (go_at_call 30; refine (M.out _ _ _ _ (U.see.fr ((Fr.refl wr).drew.trans (A.trans z))) (F.fr z).see G.see).mono ?_; rintro e w4 ⟨v4, rfl, J, D⟩; have u0 := D.cell Q; have u1 := D.cell z1)))
      have aa:Fr w w3:=hf.trans ((Fr.refl wr).drew.trans (A.trans z));go_wp2_with fail;go_ret;exact⟨_,rfl,J.rebase aa.size,aa.trans D⟩
theorem L0(v:Value)(m:List Hd)(d:List (List UInt8))(w:World)(q:bY w aP eB v m d)(hn:d.flatten.length<=100000000) :
  Calls Tryz.prog 56 #[v] w fun e w'=>∃ v,e=.returned v/\Ow w' w.heap.size eB v d.flatten/\Fr w w':=by
 obtain⟨a,a6,Y,a7,Z,y⟩:=q.1.shape;unfold maxLen at Z;subst Y;have Q:=q.2.1;have z:=ad Q;have HN:=ad y;clear Q y;have bb:d.length<=9223372036854775807:=by have:=z.out;omega
 go_enter Tryz.func56, Tryz.ntmps56;go_wp2_with fail;go_loop [3,11] (fun nv o=>∃ k n:Nat,k<=m.length/\o=N k/\nv=N n/\Hid (n=(d.take k).flatten.length)) (fun _ o=>m.length - (intOf o).toNat);case atStart=>exact⟨0,0,ap _,rfl,rfl,rfl⟩
 case round=>
  obtain⟨k,n,hk,rfl,rfl,G⟩:=hrel;have bd:n<=100000000:=(by have h1:=nK d k;have:=G.out;omega);by_cases A:k<m.length
  · obtain⟨b,ab,ac,I,R⟩:=q.1.cell1 (fun(h:Hd)=>h.v) rfl k A;have D:k<d.length:=(by have:=z.out;omega);have M:=q.2.2 k A D;have J:Hid (n+d[k].length=(d.take (k+1)).flatten.length):=(by show _=_;rw [pd d k D,an,<- G.out]);have O:=nK d (k+1);have aj:n+d[k].length<=100000000:=(by have:=J.out;omega);obtain⟨a2,c2,T,_⟩:=M.shape;generalize m[k]=h at *;obtain⟨ha,K,bn⟩:=h;simp only [Hd.v,ed]at T;obtain⟨rfl,y,rfl⟩:=T;rw [<- y]at J aj;clear y O;simp only [Hd.v]at R;cases I;have i1:(0:Int)<=k:=(by omega);have i2:(k:Int)<m.length:=(by omega);have bt:IntKind.i64.wrap ((n:Int)+K)=(n:Int)+K:=ar _ (by omega);have bu:¬(n:Int)+K<0:=(by omega);go_wp2_with fail;go_round;case rel=>exact⟨k+1,n+K,by omega,by go_num,by go_num,J⟩
    case measure=>simp [intOf];omega
  · have J:Hid (n=d.flatten.length):=(by have:=G.out;rw [eo (by have:=z.out;omega)]at this;exact this);clear G;go_wp2_with fail;refine(Bv n _ (by omega)).mono ?_;rintro e w1 ⟨v1,rfl,U,a1⟩;go_wp2_with fail;go_loopw [6,27] (fun ov o wr=>∃ k:Nat,k<=m.length/\o=N k/\Ow wr w.heap.size eB ov (d.take k).flatten/\Fr w wr) (fun _ o _=>m.length - (intOf o).toNat);case atStart=>exact⟨0,ap _,rfl,U,a1⟩
    case round=>
     clear U;obtain⟨k,bz,rfl,L,F⟩:=hrel;by_cases A:k<m.length
     · have I:=q.fr F;obtain⟨b,ab,ac,a4,R⟩:=I.1.cell1 (fun(h:Hd)=>h.v) rfl k A;have D:k<d.length:=(by have:=z.out;omega);have M:=I.2.2 k A D;have V:Hid ((d.take (k+1)).flatten=(d.take k).flatten++d[k]):=pd d k D;have O:=nK d (k+1);rw [V.out,an]at O;generalize m[k]=h at *;cases a4;have i1:(0:Int)<=k:=(by omega);have i2:(k:Int)<m.length:=(by omega);go_wp2_with (at_builtin;refine aN eB rfl (.tmp 31) (.tmp 32) 29 rfl Tryz.underlying29 w.heap.size rfl L _ _ rfl M ?c1 F.size ?_);case c1=>omega
       intro v' w4 X;go_wp2_with fail;go_roundw;case rel=>exact⟨k+1,by omega,by go_num,by rw [V.out];exact X.own,X.below L F (ag _) F.size⟩
       case measure=>simp [intOf];omega
     · rw [eo (by have:=z.out;omega)]at L;go_wp2_with fail;go_ret;exact⟨_,rfl,L,F⟩
theorem By(v:Value)(h:List Hd)(d:List (List UInt8))(w:World)(m:bY w aP eB v h d)(o:d.flatten.length<=100000000) :
  Calls Tryz.prog 30 #[v] w fun e w'=>∃ v,e=.returned v/\Ow w' w.heap.size eB v d.flatten/\Fr w w':=by
 obtain⟨a,D,q,_⟩:=m.1.shape;have y:=ad (L0 v h d w m o);subst q;go_enter Tryz.func30, Tryz.ntmps30;go_wp2_with fail;refine y.out.mono ?_;rintro e F ⟨G,rfl,z,A⟩;go_wp2_with fail;go_ret;exact⟨_,rfl,z,A⟩
theorem IS(m o q:Value)(d lb h:List UInt8)(W:World)(y:af W eB m d)(z:af W eB o lb)(A:af W eB q h)(M:d.length+lb.length+h.length<=100000000) :
  Calls Tryz.prog 30 #[.slice (some ⟨W.heap.size,0,none⟩) 3 3] (W.alloc (.cells #[m,o,q] 29)) fun e w'=>∃ v,e=.returned v/\Ow w' W.heap.size eB v (d++lb++h)/\Fr W w':=by
 obtain⟨D,rfl⟩:=kw y;obtain⟨F,rfl⟩:=kw z;obtain⟨G,rfl⟩:=kw A;have I := nE W #[D.v, F.v, G.v] 29 [D, F, G] [d, lb, h] 3 rfl rfl rfl (by simp) (fun i J I => by
  match i, J with
  | 0, _ => exact y
  | 1, _ => exact z
  | 2, _ => exact A)
 refine(By _ _ _ _ I (by simp;omega)).mono ?_;rintro e w' ⟨v,rfl,K,L⟩;exact⟨v,rfl,by simpa using K.rebase (b:=W.heap.size) (by simp),((Fr.refl W).alloc _).trans L⟩
theorem rz(v:Value)(l:List UInt8)(w:World)(h:af w eB v l):(convert 29 9 v).run Tryz.prog w=.ok (S l) w:=
 oH eB w 29 9 Tryz.underlying29 (by kernel_rfl) Tryz.underlying9 rfl rfl h
theorem AQ(d h:Value)(a b:List UInt8)(w:World)(m:af w eB d a)(o:af w eB h b) :
  Calls Tryz.prog 9 #[d,h] w fun e w'=>e=.returned (.bool (decide (a=b)))/\w=w':=by
 have A:=rz d a w m;have D:=rz h b w o;obtain⟨F,G,y,_⟩:=m.shape;obtain⟨I,J,z,_⟩:=o.shape;subst y z;clear m o;have K:(a == b)=decide (a=b):=by rw [Bool.eq_iff_iff];simp
 generalize decide (a=b)=q at *;go_enter Tryz.func9, Tryz.ntmps9;go_wp2_with fail;go_ret;exact⟨rfl,rfl⟩
theorem Lz(D F:Value)(a b:List UInt8)(w:World)(G:af w eB D a)(I:af w eB F b) :
  Calls Tryz.prog 192 #[D,F] w fun e w'=>e=.returned (.bool (decide (a=b)))/\Fr w w':=by
 obtain⟨aa,ca,Y,bb,Z,_⟩:=G.shape;obtain⟨ab,cb,ac,aj,av,_⟩:=I.shape;subst Y ac;unfold maxLen at Z av;generalize J:decide (a=b)=R;have z:=ad J;clear J;go_enter Tryz.func192, Tryz.ntmps192;by_cases o:a.length=b.length
 · have K:=ad o;rw [<- o];clear o aj;go_wp2_with fail;go_loopw [13] (fun A wr=>∃ i:Nat,i<=a.length/\A=N i/\Hid (∀ j,j<i->a[j]? = b[j]?)/\Fr w wr) (fun A _=>a.length - (intOf A).toNat);case atStart=>exact⟨0,ap _,rfl,fun j h=>absurd h (Nat.not_lt_zero j),Fr.refl w⟩
   case round=>
    obtain⟨i,hi,rfl,L,d⟩:=hrel;by_cases M:i<a.length
    · have O:i<b.length:=(by have:=K.out;omega);obtain⟨b1,a1,bk,a2,Q⟩:=(G.fr d).cell1 Fk.u8 rfl i M;obtain⟨b2,a4,bm,a5,T⟩:=(I.fr d).cell1 Fk.u8 rfl i O;have U:Hid (a[i]? = some a[i]):=bo M;have V:Hid (b[i]? = some b[i]):=bo O;generalize a[i]=x at *;generalize b[i]=y at *;have d1:wr.cell? ⟨b1,a1+i,none⟩=some (.int .u8 (x.toNat:Int)):=Q;have d2:wr.cell? ⟨b2,a4+i,none⟩=some (.int .u8 (y.toNat:Int)):=T;clear Q T;cases a2;cases a5;have i1:(0:Int)<=i:=(by omega);have i2:(i:Int)<a.length:=(by omega);by_cases q:x=y
      · subst q;go_wp2_with fail;go_quiet (fail);go_wp2_with fail;go_roundw
        case rel => exact ⟨i + 1, by omega, by go_num, fun j hj => by
         by_cases e : j = i;· subst e; rw [U.out, V.out]
         · exact L.out j (by omega), d.drewN _⟩
        case measure=>simp [intOf];omega
      · have hn:¬(x.toNat:Int)=y.toNat:=fun e=>q (gq.1 (by omega));have m:Hid (R=false):=(by show _=_;rw [<- z.out];refine bi fun e=>q ?_;have X:=U.out;rw [e,V.out]at X;exact(ez X).symm);clear q;go_wp2_with fail;go_quiet (fail);go_wp2_with fail;go_ret;exact⟨by rw [m.out];rfl,d.drewN _⟩
    · have m:Hid (R=true):=by
        show _=_;rw [<- z.out];refine bs (pTQb fun j=>?_);by_cases hj:j<a.length;· exact L.out j (by omega)
        · rw [gJ (by omega),gJ (by have:=K.out;omega)]
      obtain rfl:i=a.length:=(by omega);have bz:¬((a.length:Int)<a.length):=(by omega);go_wp2_with fail;go_ret;exact⟨by rw [m.out];rfl,d⟩
 · have m:Hid (R=false):=(by show _=_;rw [<- z.out];exact bi fun e=>o (by rw [e]));rw [m.out];have b0:¬(a.length:Int)=b.length:=(by omega);go_wp2_with fail;go_ret;exact⟨rfl,Fr.refl w⟩
theorem EZ(l:List UInt8)(h:4<=l.length):iE l=decide (l.drop (l.length - 4)=j7 (eY (l.take (l.length - 4)))):=by
 have e:ay (l.take (l.length - 4))=l.take (l.length - 4)++j7 (eY (l.take (l.length - 4))):=rfl;unfold iE;rw [bs h,Bool.true_and,e];generalize j7 (eY (l.take (l.length - 4)))=t;rw [Bool.eq_iff_iff,fi,fi];constructor;· intro d;have:=fX (List.drop (l.length - 4)) d;rw [List.drop_append_of_le_length (by rw [aV];omega),pU (by rw [aV];omega),gI]at this;exact this.symm
 · intro d;rw [<- d,kI]
theorem vz (v : Value) (l : List UInt8) (w : World) (y : af w eB v l) (hn : l.length ≤ 1000000) (Z : bU w) :
    Calls Tryz.prog 132 #[v] w fun e w'=>∃ u,e=.returned (.tuple #[u,.int .i64 (fw l:Int)])/\Ow w' w.heap.size eB u (eN l)/\Fr w w':=by
  obtain⟨a0,a4,rfl,a5,aa,_⟩:=y.shape;unfold maxLen at aa;by_cases L:l.length<4;· have A:iE l=false:=(by unfold iE;rw [bi (by omega),Bool.false_and]);have d:Hid (fw l=1):=(by show _=_;unfold fw;rw [A];simp [L]);have o:Hid (eN l=[]):=(by show _=_;unfold eN;rw [A];simp);rw [o.out];have hw:IntKind.i64.wrap ((l.length:Int) - 4)=(l.length:Int) - 4:=ar _ (by omega);have a6:(l.length:Int) - 4<0:=(by omega);rw [d.out];clear A d o;go_enter Tryz.func132, Tryz.ntmps132;go_wp2_with fail;go_ret2;exact⟨_,rfl,Ow.nil,Fr.refl w⟩
  · obtain⟨n,D⟩:∃ n,n=l.length - 4:=⟨_,rfl⟩;have M:n<=l.length:=(by omega);obtain⟨f1,f2,bb,O⟩:=kp eB 29 Tryz.underlying29 y n M;obtain⟨bc,F⟩:=j9 eB 29 Tryz.underlying29 y n M;have G:=EZ l (by omega);rw [<- D]at G;have hw:IntKind.i64.wrap ((l.length:Int) - 4)=(n:Int):=(by rw [ar _ (by omega)];omega);have bd:¬(n:Int)<0:=(by omega);have Q:(l.take n).length=n:=(by rw [aV];omega);have T:=ad (fun W (h:Fr w W)=>AJ _ (l.take n) W (F.fr h) (Z.fr h));have U:=ad (wT (eY (l.take n)) (sY _));have I:=ad (fun W v' (h:Fr w W) (h2:af W eB v' (j7 (eY (l.take n))))=>Lz _ v' _ _ W (O.fr h) h2);have aj:=ad (fun W (h:Fr w W)=>mH _ (l.take n) W (F.fr h) (by rw [Q];omega));have d:Hid (fw l=if iE l then 0 else 5):=(by show _=_;unfold fw;simp [L]);have o:Hid (eN l=if iE l then l.take n else []):=(by show _=_;rw [D];rfl);rw [<- G]at I;rw [d.out,o.out];clear d o G y F O Q D;generalize eY (l.take n)=s at *;generalize iE l=R at *;generalize l.take n=q at *;generalize l.length - n=m at *;go_enter Tryz.func132, Tryz.ntmps132;go_wp2_with fail
    go_region_held3 (fun _ => True) (first | trivial | go_keep) ((first
      | (go_at_call 60; refine (T.out _ (Fr.refl w).drew).mono ?_; rintro e w1 ⟨rfl, J⟩)
      | (go_at_call 59; refine (U.out _).mono ?_; rintro e w2 ⟨v2, rfl, V, K⟩)
      | (go_at_call 192; refine (I.out _ _ (((Fr.refl w).drew.trans J).trans K) V.see).mono ?_; rintro e w3 ⟨rfl, X⟩)))
    have z:Fr w w3:=(((Fr.refl w).drew.trans J).trans K).trans X;clear V J K X T U I;cases R;· go_wp2_with fail;go_ret2;exact⟨_,rfl,Ow.nil,z⟩
    · go_wp2_with fail;refine(aj.out _ z).mono ?_;rintro e w4 ⟨v4,rfl,Y,a1⟩;obtain⟨p4,z4,rfl⟩:=Y.shape';go_wp2_with fail;go_ret2;exact⟨_,rfl,Y.rebase z.size,z.trans a1⟩
structure ir (w:World) (B base:Nat) (v:Value) (l:List UInt8):Prop where
 own:Ow w base eB v l
 top:∀ k,v.ownBlock=some k->k<B
theorem ir.see{w:World}{B base:Nat}{v:Value}{l:List UInt8}(h:ir w B base v l):af w eB v l:=h.own.see
theorem ir.shape'{w:World}{B base:Nat}{v:Value}{l:List UInt8}(h:ir w B base v l):∃ a d,v=.slice a l.length d:=h.own.shape'
theorem ir.lt{w:World}{B base:Nat}{v:Value}{l:List UInt8}(h:ir w B base v l):∀ k,v.ownBlock=some k->base<=k/\k<w.heap.size:=h.own.lt
theorem ir.fr{w w':World}{B base:Nat}{v:Value}{l:List UInt8}(h:ir w B base v l)(d:Fr w w'):ir w' B base v l:=⟨h.own.fr d,h.top⟩
theorem ir.chg{w w':World}{B base:Nat}{v:Value}{l:List UInt8}{G:Nat->Prop}(h:ir w B base v l)(d:ak G w w')(e:∀ k,v.ownBlock=some k->¬G k):ir w' B base v l:=⟨h.own.chg d e,h.top⟩
theorem ir.ne_cells{w:World}{B base:Nat}{v:Value}{l:List UInt8}(h:ir w B base v l){b:Nat}{d:Array Value}{T:TypeId}{f:Nat × Nat}(e:w.heap[b]? = some (.cells d T f))(m:T≠(eB:al Tryz.prog UInt8).e):v.ownBlock≠some b:=h.own.ne_cells e m
structure a8 (w:World) (T:TypeId) (B base:Nat) (l:List UInt8) (n er:Nat):Prop where
 h:∃ v,w.heap[B]? = some (.cells #[v,N n,.int .i64 (er:Int)] T (0,0))/\ir w B base v l
 le:n<=l.length
theorem a8.fr{w w':World}{T:TypeId}{B base n d:Nat}{l:List UInt8}(h:a8 w T B base l n d)(e:Fr w w'):a8 w' T B base l n d:=by
 obtain⟨⟨v,m,o⟩,q⟩:=h;exact⟨⟨v,e.heap m,o.fr e⟩,q⟩
theorem vt(v:Value)(l:List UInt8)(w:World)(d:af w eB v l)(q:l.length<=1000000) :
  Calls Tryz.prog 88 #[v] w fun e w'=>∃ B,e=.returned (.pointer (some ⟨B,0,none⟩))/\a8 w' 176 B w.heap.size l 0 0/\Fr w w'/\w.heap.size<=B:=by
 have y:=ad (mH v l w d q);obtain⟨D,F,rfl,_⟩:=d.shape;clear d;go_enter Tryz.func88, Tryz.ntmps88;go_wp2_with fail;refine(y.out).mono ?_;rintro e m ⟨u,rfl,h,o⟩;obtain⟨p,z,rfl⟩:=h.shape';go_wp2_with fail;go_ret;exact⟨m.heap.size,rfl,⟨⟨_,au _ _ _ rfl,h.fr ((Fr.refl m).alloc _),fun k A=>(h.lt k A).2⟩,ap _⟩,o.alloc _,o.size⟩
theorem a8.box{w w':World}{T d:TypeId}{B base n m g:Nat}{l:List UInt8}{y:Array Value}{f:Nat × Nat}(h:a8 w T B base l n m)(z:w.heap[g]? = some (.cells y d f))(A:d≠(eB:al Tryz.prog UInt8).e)(D:B≠g)(o:ak (fun k=>k=g) w w'):a8 w' T B base l n m:=by
 obtain⟨⟨v,F,q⟩,G⟩:=h;exact⟨⟨v,o.heap F D,q.chg o (fun k I e=>q.ne_cells z A (by rw [I,e]))⟩,G⟩
def oF(W:World)(z:Nat)(d e h v3 m o:Value):World:=(((((W.setCell ⟨z,0,none⟩ d).setCell ⟨z,1,none⟩ e).setCell ⟨z,2,none⟩ h).setCell ⟨z,3,none⟩ v3).setCell ⟨z,4,none⟩ m).setCell ⟨z,5,none⟩ o
theorem D0{T:TypeId}{W:World}{z:Nat}{O M F D A y:Value}(d e m v3 o q:Value)(h:W.heap[z]? = some (.cells #[O,M,F,D,A,y] T (0,0))):(oF W z d e m v3 o q).heap[z]? = some (.cells #[d,e,m,v3,o,q] T (0,0))/\ak (fun k=>k=z) W (oF W z d e m v3 o q):=by
  unfold oF;have Q:(W.setCell ⟨z,0,none⟩ d).heap[z]? = some (.cells #[d,M,F,D,A,y] T (0,0)):=aB h 0 d;have R:=aw W ⟨z,0,none⟩ d;generalize W.setCell ⟨z,0,none⟩ d=G at *;have U:(G.setCell ⟨z,1,none⟩ e).heap[z]? = some (.cells #[d,e,F,D,A,y] T (0,0)):=aB Q 1 e;have V:=aw G ⟨z,1,none⟩ e;generalize G.setCell ⟨z,1,none⟩ e=I at *;have X:(I.setCell ⟨z,2,none⟩ m).heap[z]? = some (.cells #[d,e,m,D,A,y] T (0,0)):=aB U 2 m;have c2:=aw I ⟨z,2,none⟩ m;generalize I.setCell ⟨z,2,none⟩ m=J at *;have Y:(J.setCell ⟨z,3,none⟩ v3).heap[z]? = some (.cells #[d,e,m,v3,A,y] T (0,0)):=aB X 3 v3;have Z:=aw J ⟨z,3,none⟩ v3;generalize J.setCell ⟨z,3,none⟩ v3=K at *;have h4:(K.setCell ⟨z,4,none⟩ o).heap[z]? = some (.cells #[d,e,m,v3,o,y] T (0,0)):=aB Y 4 o;have c4:=aw K ⟨z,4,none⟩ o;generalize K.setCell ⟨z,4,none⟩ o=L at *;have h5:(L.setCell ⟨z,5,none⟩ q).heap[z]? = some (.cells #[d,e,m,v3,o,q] T (0,0)):=aB h4 5 q;have c5:=aw L ⟨z,5,none⟩ q;generalize L.setCell ⟨z,5,none⟩ q=W5 at *;exact⟨h5,((((R.trans V fun _ _ h=>h).trans c2 fun _ _ h=>h).trans Z fun _ _ h=>h).trans c4 fun _ _ h=>h).trans c5 fun _ _ h=>h⟩
theorem tu(B base n y:Nat)(l:List UInt8)(w:World)(z:a8 w 176 B base l n y) :
  Calls Tryz.prog 200 #[.pointer (some ⟨B,0,none⟩)] w fun e w'=>∃ a d,e=.returned (.slice a (l.length - n) d)/\af w' eB (.slice a (l.length - n) d) (l.drop n)/\Fr w w':=by
 obtain⟨⟨v,h,o⟩,A⟩:=z;obtain⟨F,d,rfl⟩:=o.shape';obtain⟨G,I,J,q⟩:=kp eB 29 Tryz.underlying29 o.see n A;have K:=ae h 0 rfl;have L:=ae h 1 rfl;have D:=ad q;clear h o q;generalize l.length - n=m at *;go_enter Tryz.func200, Tryz.ntmps200;go_wp2_with fail;go_quiet (fail);go_wp2_with fail;go_ret;exact⟨_,_,rfl,D.out.fr ((Fr.refl w).drewN _),(Fr.refl w).drewN _⟩
theorem mG(B base n d:Nat)(l:List UInt8)(w:World)(m:a8 w 176 B base l n d) :
  Calls Tryz.prog 136 #[.pointer (some ⟨B,0,none⟩)] w fun e w'=>e=.returned (.int .i64 (d:Int))/\w=w':=by
 obtain⟨⟨v,h,o⟩,q⟩:=m;have c2:=ae h 2 rfl;clear h o;go_enter Tryz.func136, Tryz.ntmps136;go_wp2_with fail;go_ret;exact⟨rfl,rfl⟩
theorem C5(Bn m k:Nat)(v:Value)(l:List UInt8)(w:World)(d:w.heap[Bn]? = some (.cells #[N k] 3 (0,0)))(h:af w eB v l)(o:l.length<k) :
  Calls Tryz.prog 241 #[v,.pointer (some ⟨Bn,0,none⟩),.pointer (some ⟨m,0,none⟩)] w fun e w'=>e=.returned (.tuple #[.int .i64 0,.int .i64 1])/\w=w':=by
 obtain⟨q,y,rfl,_⟩:=h.shape;have z:=ae d 0 rfl;have A:¬(k:Int)<0:=by omega
 have D:(l.length:Int)<k:=by omega
 clear h d;go_enter Tryz.func241, Tryz.ntmps241;go_wp2_with fail;go_ret2;exact⟨rfl,rfl⟩
theorem C4(Bn d k:Nat)(v M:Value)(l:List UInt8)(w:World)(G:w.heap[Bn]? = some (.cells #[N k] 3 (0,0)))(I:w.heap[d]? = some (.cells #[M] 29 (0,0)))(O:Bn≠d)(A:af w eB v l)(Q:k<=l.length)(Z:l.length<=1000000) :
  Calls Tryz.prog 241 #[v,.pointer (some ⟨Bn,0,none⟩),.pointer (some ⟨d,0,none⟩)] w fun e w'=>e=.returned (.tuple #[N k,.int .i64 0])/\∃ u,w'.heap[d]? = some (.cells #[u] 29 (0,0))/\Ow w' w.heap.size eB u (l.take k)/\ak (fun b=>b=d) w w':=by
 obtain⟨a0,ab,rfl,_⟩:=A.shape;obtain⟨ac,J⟩:=j9 eB 29 Tryz.underlying29 A k Q;have R:=ae G 0 rfl;have h1:¬(k:Int)<0:=by omega
 have h2:¬(l.length:Int)<k:=by omega
 have K:=ad (mH _ (l.take k) w J (by rw [aV];omega));have a1:d<w.heap.size:=(aR.1 I).1;clear A J;generalize l.take k=q at *;go_enter Tryz.func241, Tryz.ntmps241;go_wp2_with fail;refine(K.out).mono ?_;rintro e D ⟨u,rfl,m,F⟩;obtain⟨p,z,rfl⟩:=m.shape';have o:=F.heap I;have L:=F.heap G;have d0:=ae o 0 rfl;have z0:=az o 0;have y:=aw D ⟨d,0,none⟩ (.slice p q.length z);have T:=aB o 0 (.slice p q.length z);have U:=y.heap L O;have e0:(D.setCell ⟨d,0,none⟩ (.slice p q.length z)).cell? ⟨Bn,0,none⟩=some (N k):=by rw [aL U];rfl
 have V:=m.chg y (fun i X e=>by have h8:=(m.lt i X).1;have e:i=d:=e;omega);have Y:ak (fun b=>b=d) w (D.setCell ⟨d,0,none⟩ (.slice p q.length z)):=(F.chg _).trans y fun _ _ h=>h;clear m y L o K R;go_wp2_with fail;go_ret2;exact⟨rfl,_,T,V,Y⟩
theorem Em(B base n k Bn d:Nat)(L:Value)(l:List UInt8)(w:World)(G:a8 w 176 B base l n 0)(M:w.heap[Bn]? = some (.cells #[N k] 3 (0,0)))(F:w.heap[d]? = some (.cells #[L] 29 (0,0)))(ab:Bn≠d)(hk:n+k<=l.length)(hl:l.length<=1000000)(hb:base<=w.heap.size) :
  Calls Tryz.prog 193 #[.pointer (some ⟨B,0,none⟩),.func (.func 241) #[] #[.pointer (some ⟨Bn,0,none⟩),.pointer (some ⟨d,0,none⟩)]] w fun e w'=>e=.returned (.bool true)/\∃ u,w'.heap[d]? = some (.cells #[u] 29 (0,0))/\Ow w' w.heap.size eB u ((l.drop n).take k)/\a8 w' 176 B base l (n+k) 0/\ak (fun b=>b=d\/b=B) w w':=by
 have O:=ad (mG B base n 0 l w G);have Q:=ad (tu B base n 0 l w G);have aj:(l.drop n).length=l.length - n:=bN ..;have R:=ad (fun W v (T:Fr w W) (hs:af W eB v (l.drop n))=>C4 Bn d k v L (l.drop n) W (T.heap M) (T.heap F) ab hs (by omega) (by omega));obtain⟨⟨v,o,I⟩,bc⟩:=G;have U:B≠d:=fun e=>by rw [e,F]at o;cases o
 have bd:B<w.heap.size:=(aR.1 o).1;have bf:d<w.heap.size:=(aR.1 F).1;have a0:=I.ne_cells o (by decide);have a1:=I.ne_cells F (by decide);have bk:IntKind.i64.wrap ((n:Int)+k)=(n:Int)+k:=ar _ (by omega);clear M aj;generalize (l.drop n).take k=q at *;generalize l.length - n=m at *;go_enter Tryz.func193, Tryz.ntmps193;go_wp2_with fail;refine(O.out).mono ?_;rintro e w1 ⟨rfl,rfl⟩;go_wp2_with fail;refine(Q.out).mono ?_;rintro e w2 ⟨a,bn,rfl,V,y⟩;have X:=ad (R.out w2 _ y V);go_wp2_with fail;refine(X.out).mono ?_;rintro e Y ⟨rfl,u,Z,J,K⟩;have z:=K.heap (y.heap o) U;have aa:=(I.fr y).chg K (fun i A e=>a1 (by rw [A,show i=d from e]));have c1:=ae z 1 rfl;have z1:=az z 1;have D:=aw Y ⟨B,1,none⟩ (.int .i64 ((n:Int)+k));have a3:=aB z 1 (.int .i64 ((n:Int)+k));have a4:=D.heap Z (fun e=>U e.symm);have a5:=J.chg D (fun i A e=>(J.ne_cells z (by decide)) (by rw [A,show i=B from e]));have a6:=aa.chg D (fun i A e=>a0 (by rw [A,show i=B from e]));have a7:ak (fun b=>b=d\/b=B) w (Y.setCell ⟨B,1,none⟩ (.int .i64 ((n:Int)+k))):=((y.chg _).trans (K.mono fun _ _ h=>.inl h) fun _ _ h=>h).trans D fun _ _ h=>.inr h;clear O Q R X V Z J z aa D;go_wp2_with fail;go_ret;exact⟨rfl,u,a4,a5.rebase y.size,⟨⟨v,a3,a6⟩,hk⟩,a7⟩
theorem Je(B base n k:Nat)(l:List UInt8)(w:World)(m:a8 w 176 B base l n 0)(K:n+k<=l.length)(L:l.length<=1000000)(M:base<=w.heap.size) :
  Calls Tryz.prog 196 #[.pointer (some ⟨B,0,none⟩),N k] w fun e w'=>∃ u,e=.returned u/\Ow w' w.heap.size eB u ((l.drop n).take k)/\a8 w' 176 B base l (n+k) 0/\ak (fun b=>b=B) w w':=by
 have X:∀ (y:Fn) (first A:Array Value) (w:World),(Instr.makeFunc y first A).run Tryz.prog w=.ok (.func y first A) w:=fun _ _ _ _=>rfl;have Y:B<w.heap.size:=by obtain⟨⟨v,O,_⟩,_⟩:=m;exact(aR.1 O).1
 have D:((w.alloc (.cells #[N k] 3)).alloc (.cells #[.slice none 0 0] 29)).heap[w.heap.size]? = some (.cells #[N k] 3 (0,0)):=by rw [gz _ _ _ (by simp),au _ _ _ rfl]
 have F:((w.alloc (.cells #[N k] 3)).alloc (.cells #[.slice none 0 0] 29)).heap[w.heap.size+1]? = some (.cells #[.slice none 0 0] 29 (0,0)):=au _ _ _ (by simp);have d:Fr w ((w.alloc (.cells #[N k] 3)).alloc (.cells #[.slice none 0 0] 29)):=((Fr.refl w).alloc _).alloc _;have G:=ad (Em B base n k w.heap.size (w.heap.size+1) (.slice none 0 0) l _ (m.fr d) D F (by omega) K L (aq M d.size));have Q:w.heap.size<=((w.alloc (.cells #[N k] 3)).alloc (.cells #[.slice none 0 0] 29)).heap.size:=d.size;clear D F m;generalize (l.drop n).take k=q at *;go_enter Tryz.func196, Tryz.ntmps196;go_wp2_with fail;refine(G.out).mono ?_;rintro e R ⟨rfl,u,I,o,T,J⟩;have Z:=ae I 0 rfl;have U:ak (fun b=>b=B) w R:=(d.chg _).trans (G':=fun b=>b=w.heap.size+1\/b=B) J fun i hi h=>by
  rcases h with h | h;· omega
  · exact h
 have V:=o.rebase Q;obtain⟨p,z,rfl⟩:=o.shape';clear G I o J;go_wp2_with fail;go_ret;exact⟨_,rfl,V,T,U⟩
theorem yy(a b:Nat)(d:a<18446744073709551616)(e:b<18446744073709551616):bits .or .u64 (a:Int) (b:Int)=((a ||| b:Nat):Int):=by
 have h:a ||| b<2 ^ 64:=Nat.or_lt_two_pow (by omega) (by omega);show IntKind.u64.wrap ((BitVec.ofInt 64 (a:Int) ||| BitVec.ofInt 64 (b:Int)).toNat:Int)=_;rw [BitVec.toNat_or,fC 64 a (by omega),fC 64 b (by omega)];exact aX _ (by omega)
theorem xN (v : Value) (l : List UInt8) (w : World) (I : af w eB v l) (hl : l.length ≤ 1000000) :
    Calls Tryz.prog 240 #[v] w fun e w'=>e=.returned (.tuple #[.int .u64 ((cI l).1:Int),N (cI l).2.1,.int .i64 ((cI l).2.2:Int)])/\w=w':=by
  obtain⟨a0,bu,rfl,_⟩:=I.shape;have HS:=ad I;have T:Hid (cI l=eL 0 0 (l.drop 0)):=rfl;clear I;generalize cI l=R at *;go_enter Tryz.func240, Tryz.ntmps240;go_wp2_with fail;go_loop [2,9] (fun xv J=>∃ i x:Nat,i<=l.length/\i<=9/\J=N i/\xv=.int .u64 (x:Int)/\Hid (x<128 ^ i)/\Hid (R=eL i x (l.drop i))) (fun _ J=>l.length - (intOf J).toNat);case atStart=>exact⟨0,0,ap _,by omega,rfl,rfl,by show 0<_;decide,T.out⟩
  case round=>
    obtain⟨i,x,hi,U,rfl,rfl,z,o⟩:=hrel;clear T;by_cases V:i<l.length
    · obtain⟨b,a2,cp,hv,X⟩:=HS.out.cell1 Fk.u8 rfl i V;cases hv;have d0:w.cell? ⟨b,a2+i,none⟩=some (.int .u8 (l[i].toNat:Int)):=X;have A:=ad (Fi l i x V);have Y:=l[i].toNat_lt;clear X;generalize l[i].toNat=c at *;have i1:(i:Int)<l.length:=(by omega);have i2:(0:Int)<=i:=(by omega);by_cases m:(i=9/\¬c=1)\/(0<i/\c=0)
      · have d:Hid (R=(0,0,2)):=(by show _=_;rw [o.out,A.out,ai m]);clear o A z;by_cases D:i=9
        · subst D;by_cases h1:c=1;· omega
          · have K:¬(c:Int)=1:=(by omega);clear m h1;go_wp2_with fail;go_ret3;rw [d.out];exact⟨rfl,rfl⟩
        · have k0:¬(i:Int)=9:=(by omega);have K:(0:Int)<i:=(by omega);have Z:c=0:=(by omega);subst Z;clear m D;go_wp2_with fail;go_ret3;rw [d.out];exact⟨rfl,rfl⟩
      · have L:¬(i=9/\¬c=1):=fun h=>m (.inl h);have M:=Fh i c x U Y z.out L;have a6:=IN c Y;have G:=ad (E6 i);have a7:c % 128<128:=jM _ (by omega);have w1:IntKind.u64.wrap ((c % 128:Nat):Int)=((c % 128:Nat):Int):=aX _ (by omega);have w2:IntKind.i64.wrap (7*(i:Int))=7*(i:Int):=ar _ (by omega);have w3:IntKind.u64.wrap (((c % 128:Nat):Int)*2 ^ (7*i))=((c % 128*128 ^ i:Nat):Int):=(by rw [aX _ (by rw [show((c % 128:Nat):Int)*2 ^ (7*i)=((c % 128*2 ^ (7*i):Nat):Int) by simp,<- G.out];omega),G.out];simp);have w4:bits .or .u64 (x:Int) ((c % 128*128 ^ i:Nat):Int)=((x+c % 128*128 ^ i:Nat):Int):=(by rw [yy _ _ (by omega) (by omega),G.out,yV _ _ _ (by rw [<- G.out];exact z.out)]);have s1:¬(7*(i:Int))<0:=(by omega);have s2:(7*(i:Int)).toNat=7*i:=(by omega);by_cases D:i=9;· have bk:c=1:=(by omega);have aa:=z.out;subst D bk;have O:(128:Nat) ^ 9=9223372036854775808:=(by decide);rw [O]at aa;have w5:bits .or .u64 (x:Int) (IntKind.u64.wrap (IntKind.u64.wrap (bits .andNot .u8 1 128)*9223372036854775808))=((x+9223372036854775808:Nat):Int):=(by rw [show IntKind.u64.wrap (IntKind.u64.wrap (bits .andNot .u8 1 128)*9223372036854775808)=((1*2 ^ 63:Nat):Int)from by decide +kernel,yy _ _ (by omega) (by decide),yV _ _ _ (by omega)]);have d:Hid (R=(x+9223372036854775808,10,0)):=(by show _=_;rw [o.out,A.out,ah m,ai (by omega),O]);have HW:=ad w5;clear w1 w2 w3 w4 w5 s1 s2 a6 a7 M m L o A z aa O;go_wp2_with fail;go_ret3;rw [d.out,HW.out];exact⟨rfl,rfl⟩
        have k0:¬(i:Int)=9:=(by omega);have ac:=ad M.1;have b2:i<=8:=(by omega);have q:Hid (R=if c<128 then(x+c % 128*128 ^ i,i+1,0)else eL (i+1) (x+c % 128*128 ^ i) (l.drop (i+1))):=(by show _=_;rw [o.out,A.out,ah m]);have Q:=ad m;clear o A m M L D U;generalize c % 128*128 ^ i=y at *;generalize aj:c % 128=cm at *;have b4:=ad aj;clear aj;by_cases b5:0<i
        · have K:(0:Int)<i:=(by omega);have Z:¬(c:Int)=0:=(by have:=Q.out;omega);clear Q;by_cases F:c<128;· have k3:(c:Int)<128:=(by omega);have d:Hid (R=(x+y,i+1,0)):=(by show _=_;rw [q.out,ai F]);clear q;go_wp2_with fail;go_ret3;rw [d.out];exact⟨by simp [N],rfl⟩
          · have k3:¬(c:Int)<128:=(by omega);have d:Hid (R=eL (i+1) (x+y) (l.drop (i+1))):=(by show _=_;rw [q.out,ah F]);clear q;go_wp2_with fail;go_round;case rel=>exact⟨i+1,x+y,by omega,by omega,by go_num,rfl,ac.out,d.out⟩
            case measure=>simp [intOf];omega
        · have K:¬(0:Int)<i:=(by omega);clear Q;by_cases F:c<128;· have k3:(c:Int)<128:=(by omega);have d:Hid (R=(x+y,i+1,0)):=(by show _=_;rw [q.out,ai F]);clear q;go_wp2_with fail;go_ret3;rw [d.out];exact⟨by simp [N],rfl⟩
          · have k3:¬(c:Int)<128:=(by omega);have d:Hid (R=eL (i+1) (x+y) (l.drop (i+1))):=(by show _=_;rw [q.out,ah F]);clear q;go_wp2_with fail;go_round;case rel=>exact⟨i+1,x+y,by omega,by omega,by go_num,rfl,ac.out,d.out⟩
            case measure=>simp [intOf];omega
    · obtain rfl:i=l.length:=(by omega);have b8:¬((l.length:Int)<l.length):=(by omega);have d:Hid (R=(0,0,1)):=(by show _=_;rw [o.out,Fj l _ x (ag _)]);clear o z;go_wp2_with fail;go_ret3;rw [d.out];exact⟨rfl,rfl⟩
theorem yf(m:Value)(B base n d:Nat)(l:List UInt8)(w:World)(h:a8 w 176 B base l n d)(q:¬d=0) :
  Calls Tryz.prog 193 #[.pointer (some ⟨B,0,none⟩),m] w fun e w'=>e=.returned (.bool false)/\w=w':=by
 have o:=ad (mG B base n d l w h);have y:¬(d:Int)=0:=by omega
 clear h;go_enter Tryz.func193, Tryz.ntmps193;go_wp2_with fail;refine(o.out).mono ?_;rintro e z ⟨rfl,rfl⟩;go_wp2_with fail;go_ret;exact⟨rfl,rfl⟩
theorem El(q:Nat)(y:List Value)(a0:(q=303/\∃ a,y=[a])\/(q=194/\∃ a b,y=[a,b])\/(q=241/\∃ a b,y=[a,b])\/(q=304/\∃ a b,y=[a,b]))(G:Nat->Prop)(Q:World->Prop)(B base n k d:Nat)(l:List UInt8)(w:World)(K:a8 w 176 B base l n 0)
  (HT:Hid (∀ W v,Fr w W->af W eB v (l.drop n)->Calls Tryz.prog q (v::y).toArray W fun e w'=>e=.returned (.tuple #[N k,.int .i64 (d:Int)])/\Q w'/\ak G W w'))
  (hk:d=0->n+k<=l.length) (hG:∀ g,G g->g≠B/\∃ V T f,w.heap[g]? = some (.cells V T f)/\T≠5) (hl:l.length<=1000000) :
  Calls Tryz.prog 193 #[.pointer (some ⟨B,0,none⟩),.func (.func q) #[] y.toArray] w fun e w'=>e=.returned (.bool (decide (d=0)))/\∃ o,Q o/\ak G w o/\ak (fun b=>b=B) o w'/\a8 w' 176 B base l (if d=0 then n+k else n) d:=by
 have X:=ad (mG B base n 0 l w K);have Y:=ad (tu B base n 0 l w K);obtain⟨⟨v,Z,L⟩,a1⟩:=K;have a2:¬G B:=fun h=>(hG B h).1 rfl;have a3:∀ i,v.ownBlock=some i->¬G i:=fun i A h=>by obtain⟨_,V,T,f,h2,h3⟩:=hG i h;exact L.ne_cells h2 h3 A
 have aa:=L.ne_cells Z (by decide);clear hG;generalize l.length - n=m at *;go_enter Tryz.func193, Tryz.ntmps193;go_wp2_with fail;refine(X.out).mono ?_;rintro e w1 ⟨rfl,rfl⟩;go_wp2_with fail;refine(Y.out).mono ?_;rintro e M ⟨a,cp,rfl,ab,I⟩;have HX:Hid (Calls Tryz.prog q (.slice a m cp::y).toArray M (fun e w'=>e=.returned (.tuple #[N k,.int .i64 (d:Int)])/\Q w'/\ak G M w')):=HT.out M _ I ab;rcases a0 with⟨rfl,D,rfl⟩ | ⟨rfl,D,c2,rfl⟩ | ⟨rfl,D,c2,rfl⟩ | ⟨rfl,D,c2,rfl⟩;all_goals go_wp2_with fail
 all_goals refine(HX.out).mono ?_
 all_goals rintro e o ⟨rfl,hq,O⟩
 all_goals
  have z:=O.heap (I.heap Z) a2;have J:=(L.fr I).chg O a3;have av:ak G w o:=(I.chg _).trans O fun _ _ h=>h;clear X Y HT HX ab;by_cases he:d=0;· subst he;have ba:=hk rfl;have bd:IntKind.i64.wrap ((n:Int)+k)=(n:Int)+k:=ar _ (by omega);have D:=ae z 1 rfl;have z1:=az z 1;have F:=aw o ⟨B,1,none⟩ (.int .i64 ((n:Int)+k));have R:=aB z 1 (.int .i64 ((n:Int)+k));have U:=J.chg F (fun i A e=>aa (by rw [A,show i=B from e]));clear J;go_wp2_with fail;go_ret;exact⟨rfl,o,hq,av,F,⟨v,R,U⟩,ba⟩
  · have bf:¬(d:Int)=0:=(by omega);have D:=ae z 2 rfl;have z1:=az z 2;have F:=aw o ⟨B,2,none⟩ (.int .i64 (d:Int));have R:=aB z 2 (.int .i64 (d:Int));have U:=J.chg F (fun i A e=>aa (by rw [A,show i=B from e]));clear J;go_wp2_with fail;go_ret;exact⟨rfl,o,hq,av,F,⟨v,R,U⟩,a1⟩
theorem qN(m:Nat)(o:List Value)(D:(m=303/\∃ a,o=[a])\/(m=194/\∃ a b,o=[a,b])\/(m=241/\∃ a b,o=[a,b])\/(m=304/\∃ a b,o=[a,b]))(G:Nat->Prop)(Q:World->Prop)(B base:Nat)(s:Cs)(r:Nat × Nat × Nat)(l:List UInt8)(w:World)(z:a8 w 176 B base l s.at_ s.er)
  (HT:Hid (∀ W v,Fr w W->af W eB v (l.drop s.at_)->Calls Tryz.prog m (v::o).toArray W fun e w'=>e=.returned (.tuple #[N r.2.1,.int .i64 (r.2.2:Int)])/\Q w'/\ak G W w'))
  (hk:r.2.2=0->s.at_+r.2.1<=l.length) (hG:∀ g,G g->g≠B/\∃ F T f,w.heap[g]? = some (.cells F T f)/\T≠5) (hl:l.length<=1000000) :
  Calls Tryz.prog 193 #[.pointer (some ⟨B,0,none⟩),.func (.func m) #[] o.toArray] w fun e w'=>e=.returned (.bool (decide (s.er=0/\r.2.2=0)))/\(¬s.er=0->w=w')/\∃ q,(s.er=0->Q q)/\ak G w q/\ak (fun b=>b=B) q w'/\a8 w' 176 B base l (s.step r).at_ (s.step r).er:=by
 by_cases d:s.er=0
 · rw [d]at z;refine(El m o D G Q B base s.at_ r.2.1 r.2.2 l w z HT hk hG hl).mono ?_;rintro e I ⟨rfl,q,J,K,L,y⟩;refine⟨by simp [d],fun h=>absurd d h,q,fun _=>J,K,L,?_⟩;unfold Cs.step;rw [ai d];by_cases A:r.2.2=0;· rw [ai A]at y ⊢;rw [A]at y;exact y
   · rw [ah A]at y ⊢;exact y
 · refine(yf _ B base s.at_ s.er l w z d).mono ?_;rintro e I ⟨rfl,rfl⟩;refine⟨by simp [d],fun _=>rfl,w,fun h=>absurd h d,ak.refl _ _,ak.refl _ _,?_⟩;unfold Cs.step;rw [ah d];exact z
theorem yQ(d:Nat)(I:d<9223372036854775808)(v:Value)(l:List UInt8)(w:World)(o:af w eB v l)(J:l.length<=1000000) :
  Calls Tryz.prog 195 #[v,N d] w fun e w'=>e=.returned (.tuple #[N (ax d l).1,N (ax d l).2.1,.int .i64 ((ax d l).2.2:Int)])/\w=w':=by
 have y:=ad (xN v l w o J);have L:=y8 l;have h:Hid (ax d l=if(cI l).2.2=0 then(if d<(cI l).1 then(0,0,6)else cI l)else(0,0,(cI l).2.2)):=rfl;obtain⟨M,O,rfl,_⟩:=o.shape;clear o;generalize ax d l=R at *;generalize cI l=q at *;obtain⟨x,n,z⟩:=q;by_cases A:z=0
 · subst A;have Q:¬(d:Int)<0:=(by omega);by_cases D:d<x;· have m:Hid (R=(0,0,6)):=(by show _=_;rw [h.out,ai rfl,ai D]);have F:(d:Int)<x:=(by omega);have T:=ad I;have K:IntKind.u64.wrap (d:Int)=(d:Int):=aX _ (by omega);clear h;go_enter Tryz.func195, Tryz.ntmps195;go_wp2_with fail;refine(y.out).mono ?_;rintro e G ⟨rfl,rfl⟩;go_wp2_with fail;go_ret3;rw [m.out];exact⟨rfl,rfl⟩
   · have m:Hid (R=(x,n,0)):=(by show _=_;rw [h.out,ai rfl,ah D]);have F:¬(d:Int)<x:=(by omega);have K:IntKind.u64.wrap (d:Int)=(d:Int):=aX _ (by omega);have U:IntKind.i64.wrap (x:Int)=(x:Int):=ar _ (by omega);clear h;go_enter Tryz.func195, Tryz.ntmps195;go_wp2_with fail;refine(y.out).mono ?_;rintro e G ⟨rfl,rfl⟩;go_wp2_with fail;go_ret3;rw [m.out];exact⟨rfl,rfl⟩
 · have m:Hid (R=(0,0,z)):=(by show _=_;rw [h.out];simp only;rw [ah A]);have F:¬(z:Int)=0:=(by omega);clear h;go_enter Tryz.func195, Tryz.ntmps195;go_wp2_with fail;refine(y.out).mono ?_;rintro e G ⟨rfl,rfl⟩;go_wp2_with fail;go_ret3;rw [m.out];exact⟨rfl,rfl⟩
theorem Fm(d:Nat)(o v:Value)(l:List UInt8)(w:World)(h:w.heap[d]? = some (.cells #[o] 35 (0,0)))(m:af w eB v l)(y:l.length<=1000000) :
  Calls Tryz.prog 303 #[v,.pointer (some ⟨d,0,none⟩)] w fun e w'=>e=.returned (.tuple #[N (cI l).2.1,.int .i64 ((cI l).2.2:Int)])/\w'.heap[d]? = some (.cells #[.int .u64 ((cI l).1:Int)] 35 (0,0))/\ak (fun b=>b=d) w w':=by
 have z:=ad (xN v l w m y);have F:=ae h 0 rfl;have G:=az h 0;have A:=aw w ⟨d,0,none⟩ (.int .u64 ((cI l).1:Int));have D:=aB h 0 (.int .u64 ((cI l).1:Int));obtain⟨I,J,rfl,_⟩:=m.shape;clear m;generalize cI l=q at *;go_enter Tryz.func303, Tryz.ntmps303;go_wp2_with fail;refine(z.out).mono ?_;rintro e K ⟨rfl,rfl⟩;go_wp2_with fail;go_ret2;exact⟨rfl,D,A⟩
theorem Gi(d:Nat)(z:d<9223372036854775808)(y h:Nat)(A v:Value)(l:List UInt8)(w:World)(D:w.heap[y]? = some (.cells #[N d] 3 (0,0)))(m:w.heap[h]? = some (.cells #[A] 3 (0,0)))(o:af w eB v l)(F:l.length<=1000000) :
  Calls Tryz.prog 194 #[v,.pointer (some ⟨y,0,none⟩),.pointer (some ⟨h,0,none⟩)] w fun e w'=>e=.returned (.tuple #[N (ax d l).2.1,.int .i64 ((ax d l).2.2:Int)])/\w'.heap[h]? = some (.cells #[N (ax d l).1] 3 (0,0))/\ak (fun b=>b=h) w w':=by
 have G:=ad (yQ d z v l w o F);have K:=ae D 0 rfl;have L:=ae m 0 rfl;have M:=az m 0;have I:=aw w ⟨h,0,none⟩ (N (ax d l).1);have J:=aB m 0 (N (ax d l).1);obtain⟨O,Q,rfl,_⟩:=o.shape;clear o;generalize ax d l=q at *;go_enter Tryz.func194, Tryz.ntmps194;go_wp2_with fail;refine(G.out).mono ?_;rintro e R ⟨rfl,rfl⟩;go_wp2_with fail;go_ret2;exact⟨rfl,J,I⟩
theorem KQ(B base:Nat)(s:Cs)(l:List UInt8)(w:World)(z:a8 w 176 B base l s.at_ s.er)(T:l.length<=1000000) :
  Calls Tryz.prog 278 #[.pointer (some ⟨B,0,none⟩)] w fun e w'=>e=.returned (.int .u64 ((s.num l).1:Int))/\a8 w' 176 B base l (s.num l).2.at_ (s.num l).2.er/\ak (fun b=>b=B) w w':=by
 have aj:∀ (L:Fn) (first M:Array Value) (w:World),(Instr.makeFunc L first M).run Tryz.prog w=.ok (.func L first M) w:=fun _ _ _ _=>rfl;have av:B<w.heap.size:=by obtain⟨⟨v,U,_⟩,_⟩:=z;exact(aR.1 U).1
 have F:(w.alloc (.cells #[.int .u64 0] 35)).heap[w.heap.size]? = some (.cells #[.int .u64 0] 35 (0,0)):=au _ _ _ rfl;have G:Fr w (w.alloc (.cells #[.int .u64 0] 35)):=(Fr.refl w).alloc _;have O:(l.drop s.at_).length<=1000000:=by rw [bN];omega
 have V:s.at_<=l.length:=z.le
 have m := ad (qN 303 [.pointer (some ⟨w.heap.size, 0, none⟩)] (.inl ⟨rfl, _, rfl⟩) (fun b => b = w.heap.size) (fun W => W.heap[w.heap.size]? = some (.cells #[.int .u64 ((cI (l.drop s.at_)).1 : Int)] 35 (0, 0))) B base s (cI (l.drop s.at_)) l _ (z.fr G)
  (ad fun W v X Y => (Fm w.heap.size _ v _ W (X.heap F) Y O)) (fun h => by have := tR _ h; rw [bN] at this; omega)
  (by intro g Z; obtain rfl : g = w.heap.size := Z; exact ⟨by omega, _, _, _, F, by decide⟩) T)
 have Q:Hid (s.num l=(s.val (cI (l.drop s.at_)),s.step (cI (l.drop s.at_)))):=rfl;have A:Hid (s.val (cI (l.drop s.at_))=if s.er=0/\(cI (l.drop s.at_)).2.2=0 then(cI (l.drop s.at_)).1 else 0):=rfl;rw [Q.out];clear F z O V Q;generalize s.step (cI (l.drop s.at_))=s2 at *;generalize s.val (cI (l.drop s.at_))=x2 at *;generalize cI (l.drop s.at_)=q at *;by_cases d:s.er=0/\q.2.2=0;· rw [bs d]at m;rw [ai d]at A;have h0:=ad d.1;clear d;go_enter Tryz.func278, Tryz.ntmps278;go_wp2_with fail;refine(m.out).mono ?_;rintro e I ⟨rfl,_,w2,D,y,o,J⟩;have R:=o.heap (D h0.out) (by omega);have c1:=ae R 0 rfl;have K:ak (fun b=>b=B) w I:=((G.chg _).trans (G':=fun b=>b=w.heap.size) y fun i hi h=>by omega).trans o fun i _ h=>h;clear m y o D R;go_wp2_with fail;go_ret;rw [A.out];exact⟨rfl,J,K⟩
 · rw [bi d]at m;rw [ah d]at A;clear d;go_enter Tryz.func278, Tryz.ntmps278;go_wp2_with fail;refine(m.out).mono ?_;rintro e I ⟨rfl,_,w2,D,y,o,J⟩;have K:ak (fun b=>b=B) w I:=((G.chg _).trans (G':=fun b=>b=w.heap.size) y fun i hi h=>by omega).trans o fun i _ h=>h;clear m y o D;go_wp2_with fail;go_ret;rw [A.out];exact⟨rfl,J,K⟩
theorem vx(d:Nat)(X:d<9223372036854775808)(B base:Nat)(s:Cs)(l:List UInt8)(w:World)(A:a8 w 176 B base l s.at_ s.er)(Y:l.length<=1000000) :
  Calls Tryz.prog 133 #[.pointer (some ⟨B,0,none⟩),N d] w fun e w'=>e=.returned (N (s.int l d).1)/\a8 w' 176 B base l (s.int l d).2.at_ (s.int l d).2.er/\ak (fun b=>b=B) w w':=by
 have a1:∀ (M:Fn) (first O:Array Value) (w:World),(Instr.makeFunc M first O).run Tryz.prog w=.ok (.func M first O) w:=fun _ _ _ _=>rfl;have a2:B<w.heap.size:=by obtain⟨⟨v,Z,_⟩,_⟩:=A;exact(aR.1 Z).1
 have Q:((w.alloc (.cells #[N d] 3)).alloc (.cells #[.int .i64 0] 3)).heap[w.heap.size]? = some (.cells #[N d] 3 (0,0)):=by rw [gz _ _ _ (by simp),au _ _ _ rfl]
 have G:((w.alloc (.cells #[N d] 3)).alloc (.cells #[.int .i64 0] 3)).heap[w.heap.size+1]? = some (.cells #[.int .i64 0] 3 (0,0)):=au _ _ _ (by simp);have I:Fr w ((w.alloc (.cells #[N d] 3)).alloc (.cells #[.int .i64 0] 3)):=((Fr.refl w).alloc _).alloc _;have R:(l.drop s.at_).length<=1000000:=by rw [bN];omega
 have aa:s.at_<=l.length:=A.le
 have o := ad (qN 194 [.pointer (some ⟨w.heap.size, 0, none⟩), .pointer (some ⟨w.heap.size + 1, 0, none⟩)] (.inr (.inl ⟨rfl, _, _, rfl⟩)) (fun b => b = w.heap.size + 1) (fun W => W.heap[w.heap.size + 1]? = some (.cells #[N (ax d (l.drop s.at_)).1] 3 (0, 0))) B base s (ax d (l.drop s.at_)) l _ (A.fr I)
  (ad fun W v T hs => (Gi d X w.heap.size (w.heap.size + 1) _ v _ W (T.heap Q) (T.heap G) hs R)) (fun h => by have := oQ _ _ h; rw [bN] at this; omega)
  (by intro g hg; obtain rfl : g = w.heap.size + 1 := hg; exact ⟨by omega, _, _, _, G, by decide⟩) Y)
 have U:Hid (s.int l d=(s.val (ax d (l.drop s.at_)),s.step (ax d (l.drop s.at_)))):=rfl;have D:Hid (s.val (ax d (l.drop s.at_))=if s.er=0/\(ax d (l.drop s.at_)).2.2=0 then(ax d (l.drop s.at_)).1 else 0):=rfl;rw [U.out];clear Q G A R aa U;generalize s.step (ax d (l.drop s.at_))=s2 at *;generalize s.val (ax d (l.drop s.at_))=x2 at *;generalize ax d (l.drop s.at_)=q at *;by_cases m:s.er=0/\q.2.2=0;· rw [bs m]at o;rw [ai m]at D;have h0:=ad m.1;clear m;go_enter Tryz.func133, Tryz.ntmps133;go_wp2_with fail;refine(o.out).mono ?_;rintro e J ⟨rfl,_,w2,F,z,y,K⟩;have V:=y.heap (F h0.out) (by omega);have c1:=ae V 0 rfl;have L:ak (fun b=>b=B) w J:=((I.chg _).trans (G':=fun b=>b=w.heap.size+1) z fun i hi h=>by omega).trans y fun i _ h=>h;clear o z y F V;go_wp2_with fail;go_ret;rw [D.out];exact⟨rfl,K,L⟩
 · rw [bi m]at o;rw [ah m]at D;clear m;go_enter Tryz.func133, Tryz.ntmps133;go_wp2_with fail;refine(o.out).mono ?_;rintro e J ⟨rfl,_,w2,F,z,y,K⟩;have L:ak (fun b=>b=B) w J:=((I.chg _).trans (G':=fun b=>b=w.heap.size+1) z fun i hi h=>by omega).trans y fun i _ h=>h;clear o z y F;go_wp2_with fail;go_ret;rw [D.out];exact⟨rfl,K,L⟩
theorem Cw (d : Nat) (O : d < 9223372036854775808) (G y : Nat) (v : Value) (l : List UInt8) (w : World) (Q : w.heap[G]? = some (.cells #[N d] 3 (0, 0))) (z : w.heap[y]? = some (.cells #[S []] 9 (0, 0))) (o : af w eB v l) (R : l.length ≤ 1000000) :
    Calls Tryz.prog 304 #[v,.pointer (some ⟨G,0,none⟩),.pointer (some ⟨y,0,none⟩)] w fun e w'=>e=.returned (.tuple #[N (fo d l).2.1,.int .i64 ((fo d l).2.2:Int)])/\w'.heap[y]? = some (.cells #[S (fo d l).1] 9 (0,0))/\ak (fun b=>b=y) w w':=by
  have A:=ad (yQ d O v l w o R);have m0:=ae Q 0 rfl;have c0:=ae z 0 rfl;have z0:=az z 0;have m:Hid (fo d l=if(ax d l).2.2=0 then(if l.length<(ax d l).2.1+(ax d l).1 then([],0,1)else((l.drop (ax d l).2.1).take (ax d l).1,(ax d l).2.1+(ax d l).1,0))else([],0,(ax d l).2.2)):=rfl;have F:=oQ d l;obtain⟨U,V,rfl,_⟩:=o.shape;generalize fo d l=T at *;by_cases h:(ax d l).2.2=0
  · have I:=F h;rw [ai h]at m;have a1:IntKind.i64.wrap ((l.length:Int) - ((ax d l).2.1:Int))=(l.length:Int) - ((ax d l).2.1:Int):=ar _ (by omega);by_cases D:l.length<(ax d l).2.1+(ax d l).1;· rw [ai D]at m;have X:(l.length:Int) - ((ax d l).2.1:Int)<((ax d l).1:Int):=(by omega);clear o F I D;rw [h]at A;clear h;generalize (ax d l).1=x at *;generalize (ax d l).2.1=n at *;go_enter Tryz.func304, Tryz.ntmps304;go_wp2_with fail;refine(A.out).mono ?_;rintro e J ⟨rfl,rfl⟩;go_wp2_with fail;go_ret2;rw [m.out];exact⟨rfl,z,ak.refl _ _⟩
    · rw [ah D]at m;have X:¬(l.length:Int) - ((ax d l).2.1:Int)<((ax d l).1:Int):=(by omega);have K:(l.take ((ax d l).2.1+(ax d l).1)).drop (ax d l).2.1=(l.drop (ax d l).2.1).take (ax d l).1:=(by rw [List.drop_take,rV]);obtain⟨Y,Z,L,M⟩:=qE eB 29 Tryz.underlying29 o (ax d l).2.1 ((ax d l).2.1+(ax d l).1) (by omega) (by omega);rw [K,rV]at *;have a2:∀ W,(Instr.slice 29 (.slice U l.length V) (some (.int .i64 ((ax d l).2.1:Int))) (some (.int .i64 (((ax d l).2.1:Int)+((ax d l).1:Int)))) none).run Tryz.prog W=.ok (.slice Y (ax d l).1 Z) W:=L;have a3:=rz _ _ w M;have a4:IntKind.i64.wrap (((ax d l).2.1:Int)+((ax d l).1:Int))=((ax d l).2.1:Int)+((ax d l).1:Int):=ar _ (by omega);have aa:=aw w ⟨y,0,none⟩ (S ((l.drop (ax d l).2.1).take (ax d l).1));have ab:=aB z 0 (S ((l.drop (ax d l).2.1).take (ax d l).1));clear o F I D M L K;rw [h]at A;clear h;generalize (l.drop (ax d l).2.1).take (ax d l).1=q at *;generalize (ax d l).1=x at *;generalize (ax d l).2.1=n at *;go_enter Tryz.func304, Tryz.ntmps304;go_wp2_with fail;refine(A.out).mono ?_;rintro e J ⟨rfl,rfl⟩;go_wp2_with fail;go_ret2;rw [m.out];exact⟨by simp,ab,aa⟩
  · rw [ah h]at m;have D:¬((ax d l).2.2:Int)=0:=(by omega);clear o F h;generalize (ax d l).2.2=er at *;go_enter Tryz.func304, Tryz.ntmps304;go_wp2_with fail;refine(A.out).mono ?_;rintro e J ⟨rfl,rfl⟩;go_wp2_with fail;go_ret2;rw [m.out];exact⟨rfl,z,ak.refl _ _⟩
theorem AH(d:Nat)(Z:d<9223372036854775808)(B base:Nat)(s:Cs)(l:List UInt8)(w:World)(y:a8 w 176 B base l s.at_ s.er)(hl:l.length<=1000000) :
  Calls Tryz.prog 279 #[.pointer (some ⟨B,0,none⟩),N d] w fun e w'=>e=.returned (S (s.text l d).1)/\a8 w' 176 B base l (s.text l d).2.at_ (s.text l d).2.er/\ak (fun b=>b=B) w w':=by
 have a3:∀ (G:Fn) (first I:Array Value) (w:World),(Instr.makeFunc G first I).run Tryz.prog w=.ok (.func G first I) w:=fun _ _ _ _=>rfl;have a4:B<w.heap.size:=by obtain⟨⟨v,h1,_⟩,_⟩:=y;exact(aR.1 h1).1
 obtain⟨m,o⟩:∃ m,m=(w.alloc (.cells #[N d] 3)).alloc (.cells #[S []] 9):=⟨_,rfl⟩;have J:m.heap[w.heap.size]? = some (.cells #[N d] 3 (0,0)):=by rw [o,gz _ _ _ (by simp),au _ _ _ rfl]
 have z:m.heap[w.heap.size+1]? = some (.cells #[S []] 9 (0,0)):=by rw [o];exact au _ _ _ (by simp)
 have K:Fr w m:=by rw [o];exact((Fr.refl w).alloc _).alloc _
 have L:(l.drop s.at_).length<=1000000:=by rw [bN];omega
 have ac:s.at_<=l.length:=y.le
 have M := ad (qN 304 [.pointer (some ⟨w.heap.size, 0, none⟩), .pointer (some ⟨w.heap.size + 1, 0, none⟩)] (.inr (.inr (.inr ⟨rfl, _, _, rfl⟩))) (fun b => b = w.heap.size + 1) (fun W => W.heap[w.heap.size + 1]? = some (.cells #[S (fo d (l.drop s.at_)).1] 9 (0, 0))) B base s (0, (fo d (l.drop s.at_)).2) l m (y.fr K)
  (ad fun W v O hs => (Cw d Z w.heap.size (w.heap.size + 1) v _ W (O.heap J) (O.heap z) hs L)) (fun h => by have := (sI _ _ h).2.1; rw [bN] at this; show s.at_ + (fo d (l.drop s.at_)).2.1 ≤ _; omega)
  (by intro g hg; obtain rfl : g = w.heap.size + 1 := hg; exact ⟨by omega, _, _, _, z, by decide⟩) hl)
 have Q:Hid (s.text l d=(if s.er=0 then(fo d (l.drop s.at_)).1 else [],s.step (0,(fo d (l.drop s.at_)).2))):=rfl;rw [Q.out];clear J y L ac Q;generalize s.step (0,(fo d (l.drop s.at_)).2)=s2 at *;generalize decide (s.er=0/\(0,(fo d (l.drop s.at_)).2).2.2=0)=ok at *;generalize (fo d (l.drop s.at_)).1=q at *;have R:=ad z;obtain⟨A,D⟩:∃ A,A=(if s.er=0 then q else []):=⟨_,rfl⟩;rw [<- D];have a0:=ad D;clear D;clear z;go_enter Tryz.func279, Tryz.ntmps279;go_wp2_with fail;rw [<- o];refine(M.out).mono ?_;rintro e T ⟨rfl,U,w2,V,X,F,hC⟩;have a2:ak (fun b=>b=B) w T:=((K.chg _).trans (G':=fun b=>b=w.heap.size+1) X fun i hi h=>by omega).trans F fun i _ h=>h;have Y:T.heap[w.heap.size+1]? = some (.cells #[S A] 9 (0,0)):=by
  rw [a0.out];by_cases h:s.er=0;· rw [ai h];exact F.heap (V h) (by omega)
  · rw [ah h,<- U h];exact R.out
 have c1:=ae Y 0 rfl;clear M X F V Y U R o;go_wp2_with fail;go_ret;exact⟨rfl,hC,a2⟩
theorem AI(B base k:Nat)(s:Cs)(l:List UInt8)(w:World)(m:a8 w 176 B base l s.at_ s.er)(Y:¬s.er=0\/l.length<s.at_+k)(Z:l.length<=1000000) :
  Calls Tryz.prog 196 #[.pointer (some ⟨B,0,none⟩),N k] w fun e w'=>e=.returned (.slice none 0 0)/\a8 w' 176 B base l (s.step (0,0,1)).at_ (s.step (0,0,1)).er/\ak (fun b=>b=B) w w':=by
 have a2:∀ (D:Fn) (first F:Array Value) (w:World),(Instr.makeFunc D first F).run Tryz.prog w=.ok (.func D first F) w:=fun _ _ _ _=>rfl;have a3:B<w.heap.size:=by obtain⟨⟨v,y,_⟩,_⟩:=m;exact(aR.1 y).1
 obtain⟨d,o⟩:∃ d,d=(w.alloc (.cells #[N k] 3)).alloc (.cells #[.slice none 0 0] 29):=⟨_,rfl⟩;have G:d.heap[w.heap.size]? = some (.cells #[N k] 3 (0,0)):=by rw [o,gz _ _ _ (by simp),au _ _ _ rfl]
 have I:d.heap[w.heap.size+1]? = some (.cells #[.slice none 0 0] 29 (0,0)):=by rw [o];exact au _ _ _ (by simp)
 have q:Fr w d:=by rw [o];exact((Fr.refl w).alloc _).alloc _
 have J:(l.drop s.at_).length=l.length - s.at_:=by rw [bN]
 have K:Hid (∃ R:Ending->World->Prop,Calls Tryz.prog 193 #[.pointer (some ⟨B,0,none⟩),.func (.func 241) #[] #[.pointer (some ⟨w.heap.size,0,none⟩),.pointer (some ⟨w.heap.size+1,0,none⟩)]] d R/\∀ e w',R e w'->(∃ b,e=.returned (.bool b))/\ak (fun b=>b=B) d w'/\a8 w' 176 B base l (s.step (0,0,1)).at_ (s.step (0,0,1)).er):=by
  by_cases L:s.er=0;· have HT:Hid (∀ W v,Fr d W->af W eB v (l.drop s.at_)->Calls Tryz.prog 241 (v::[.pointer (some ⟨w.heap.size,0,none⟩),.pointer (some ⟨w.heap.size+1,0,none⟩)]).toArray W fun e w'=>e=.returned (.tuple #[N (0:Nat),.int .i64 ((1:Nat):Int)])/\True/\ak (fun _=>False) W w'):=fun W v hW hs=>(C5 w.heap.size (w.heap.size+1) k v _ W (hW.heap G) hs (by rw [J];have:=m.le;omega)).mono (by rintro e w' ⟨rfl,rfl⟩;exact⟨rfl,trivial,ak.refl _ _⟩);refine⟨_,qN 241 [.pointer (some ⟨w.heap.size,0,none⟩),.pointer (some ⟨w.heap.size+1,0,none⟩)] (.inr (.inr (.inl ⟨rfl,_,_,rfl⟩))) (fun _=>False) (fun _=>True) B base s (0,0,1) l d (m.fr q) HT (fun h=>by cases h) (fun g h=>h.elim) Z,?_⟩;rintro e w' ⟨rfl,_,z,_,y,h2,h3⟩;exact⟨⟨_,rfl⟩,(y.mono fun _ _ h=>h.elim).trans h2 fun _ _ h=>h,h3⟩
  · refine⟨_,yf _ B base s.at_ s.er l d (m.fr q) L,?_⟩;rintro e w' ⟨rfl,rfl⟩;refine⟨⟨_,rfl⟩,ak.refl _ _,?_⟩;unfold Cs.step;rw [ah L];exact m.fr q
 obtain⟨R,M,O⟩:=K.out;have Q:=ad M;have T:=ad O;have U:=ad I;clear K M O G I J Y;generalize s.step (0,0,1)=s2 at *;go_enter Tryz.func196, Tryz.ntmps196;go_wp2_with fail;rw [<- o];refine(Q.out).mono ?_;intro e z V;obtain⟨⟨b,rfl⟩,A,hC⟩:=T.out e z V;have X:=A.heap U.out (by omega);have c1:=ae X 0 rfl;have a1:ak (fun b=>b=B) w z:=(q.chg _).trans A fun _ _ h=>h;clear Q T U V X A o;go_wp2_with fail;go_ret;exact⟨rfl,hC,a1⟩
theorem uY(B base k:Nat)(s:Cs)(l:List UInt8)(w:World)(q:a8 w 176 B base l s.at_ s.er)(y:l.length<=1000000)(D:base<=w.heap.size) :
  Calls Tryz.prog 196 #[.pointer (some ⟨B,0,none⟩),N k] w fun e w'=>∃ u,e=.returned u/\Ow w' w.heap.size eB u (s.take l k).1/\a8 w' 176 B base l (s.take l k).2.at_ (s.take l k).2.er/\ak (fun b=>b=B) w w':=by
 by_cases d:s.er=0
 · by_cases z:l.length<s.at_+k;· refine(AI B base k s l w q (.inr z) y).mono ?_;rintro e w' ⟨rfl,h,m⟩;have o:s.take l k=([],⟨s.at_,1⟩):=(by unfold Cs.take;rw [ai d,ai z]);have A:s.step (0,0,1)=⟨s.at_,1⟩:=(by unfold Cs.step;rw [ai d,ah (by decide)]);rw [o];rw [A]at h;exact⟨_,rfl,Ow.nil,h,m⟩
   · rw [d]at q;refine(Je B base s.at_ k l w q (by omega) y D).mono ?_;rintro e w' ⟨u,rfl,F,h,m⟩;have o:s.take l k=((l.drop s.at_).take k,⟨s.at_+k,0⟩):=(by unfold Cs.take;rw [ai d,ah z]);rw [o];exact⟨u,rfl,F,h,m⟩
 · refine(AI B base k s l w q (.inl d) y).mono ?_;rintro e w' ⟨rfl,h,m⟩;have o:s.take l k=([],s):=(by unfold Cs.take;rw [ah d]);have A:s.step (0,0,1)=s:=(by unfold Cs.step;rw [ah d]);rw [o];rw [A]at h;exact⟨_,rfl,Ow.nil,h,m⟩
theorem C6(s:Cs)(l:List UInt8):(s.take l 1).1=[]\/∃ x,(s.take l 1).1=[x]:=by
 unfold Cs.take;split
 · split;· exact .inl rfl
   · show(l.drop s.at_).take 1=[]\/∃ x,(l.drop s.at_).take 1=[x]
     cases l.drop s.at_ with
     | nil=>exact .inl rfl
     | cons x t=>exact .inr ⟨x,rfl⟩
 · exact .inl rfl
theorem vA (B base : Nat) (s : Cs) (l : List UInt8) (w : World) (y : a8 w 176 B base l s.at_ s.er) (G : l.length ≤ 1000000) (I : base ≤ w.heap.size) :
    Calls Tryz.prog 134 #[.pointer (some ⟨B,0,none⟩)] w fun e w'=>e=.returned (.int .u8 ((s.byte l).1:Int))/\a8 w' 176 B base l (s.byte l).2.at_ (s.byte l).2.er/\ak (fun b=>b=B) w w':=by
  have h:=ad (uY B base 1 s l w y G I);have A:Hid (s.byte l=((((s.take l 1).1).getD 0 0).toNat,(s.take l 1).2)):=rfl;rw [A.out];have J:=C6 s l;clear y A;generalize (s.take l 1).1=q at *;generalize (s.take l 1).2=L at *;rcases J with rfl | ⟨x,rfl⟩;· go_enter Tryz.func134, Tryz.ntmps134;go_wp2_with fail;refine(h.out).mono ?_;rintro e D ⟨u,rfl,d,m,o⟩;obtain⟨p,z,rfl⟩:=d.shape';clear h d;go_wp2_with fail;go_ret;exact⟨rfl,m,o⟩
  · go_enter Tryz.func134, Tryz.ntmps134;go_wp2_with fail;refine(h.out).mono ?_;rintro e D ⟨u,rfl,d,m,o⟩;obtain⟨b,K,M,rfl,F⟩:=d.see.cell1 Fk.u8 rfl 0 (by simp);have O:D.cell? ⟨b,K,none⟩=some (.int .u8 (x.toNat:Int)):=F;clear d F h;go_wp2_with fail;go_ret;exact⟨rfl,m,o⟩
theorem Bk(B base n d:Nat)(l:List UInt8)(w:World)(h:a8 w 176 B base l n d) :
  Calls Tryz.prog 138 #[.pointer (some ⟨B,0,none⟩)] w fun e w'=>e=.returned (N (l.length - n))/\Fr w w':=by
 have o:=ad (tu B base n d l w h);clear h;generalize l.length - n=m at *;go_enter Tryz.func138, Tryz.ntmps138;go_wp2_with fail;refine(o.out).mono ?_;rintro e y ⟨a,z,rfl,_,q⟩;clear o;go_wp2_with fail;go_ret;exact⟨rfl,q⟩
theorem vB(B base n h:Nat)(l:List UInt8)(w:World)(m:a8 w 176 B base l n h) :
  Calls Tryz.prog 198 #[.pointer (some ⟨B,0,none⟩)] w fun e w'=>e=.returned (N n)/\w=w':=by
 obtain⟨⟨v,d,o⟩,q⟩:=m;have y:=ae d 1 rfl;clear d o;go_enter Tryz.func198, Tryz.ntmps198;go_wp2_with fail;go_ret;exact⟨rfl,rfl⟩
theorem vy(d:Nat)(B base:Nat)(s:Cs)(l:List UInt8)(w:World)(A:a8 w 176 B base l s.at_ s.er) :
  Calls Tryz.prog 135 #[.pointer (some ⟨B,0,none⟩),.int .i64 (d:Int)] w fun e w'=>e=.returned (.tuple #[])/\a8 w' 176 B base l (s.fail d).at_ (s.fail d).er/\ak (fun b=>b=B) w w':=by
 obtain⟨⟨v,h,m⟩,y⟩:=A;have c2:=ae h 2 rfl;by_cases o:s.er=0;· have q:Hid (s.fail d=⟨s.at_,d⟩):=(by show _=_;unfold Cs.fail;rw [ai o]);rw [o]at c2;have K:=az h 2;have D:=m.ne_cells h (by decide);have z:=aw w ⟨B,2,none⟩ (.int .i64 (d:Int));have F:=aB h 2 (.int .i64 (d:Int));have G:=m.chg z (fun i I e=>D (by rw [I,show i=B from e]));clear m o;go_enter Tryz.func135, Tryz.ntmps135;go_wp2_with fail;go_end0;rw [q.out];exact⟨rfl,⟨⟨v,F,G⟩,y⟩,z⟩
 · have q:Hid (s.fail d=s):=(by show _=_;unfold Cs.fail;rw [ah o]);have L:¬(s.er:Int)=0:=(by omega);have J:=ad (a8.mk ⟨v,h,m⟩ y);clear h m o;go_enter Tryz.func135, Tryz.ntmps135;go_wp2_with fail;go_end0;rw [q.out];exact⟨rfl,J.out,ak.refl _ _⟩
theorem F3(l:List UInt8)(h:l.length<=4):bS l=(0,1):=by unfold bS;rw [ai h]
theorem F6(l:List UInt8)(h:¬l.length<=4)(d:¬l.take 4=[70,73,82,75]):bS l=(0,3):=by unfold bS;rw [ah h,ah d]
theorem F0(l:List UInt8)(h:¬l.length<=4)(d:l.take 4=[70,73,82,75])(e:1<=(l.getD 4 0).toNat/\(l.getD 4 0).toNat<=3):bS l=((l.getD 4 0).toNat,0):=by unfold bS;rw [ah h,ai d,ai e]
theorem F5(l:List UInt8)(h:¬l.length<=4)(d:l.take 4=[70,73,82,75])(e:¬(1<=(l.getD 4 0).toNat/\(l.getD 4 0).toNat<=3)):bS l=(0,4):=by unfold bS;rw [ah h,ai d,ah e]
theorem vo(v:Value)(l:List UInt8)(w:World)(q:af w eB v l) :
  Calls Tryz.prog 23 #[v] w fun e w'=>e=.returned (.tuple #[N (bS l).1,.int .i64 ((bS l).2:Int)])/\Fr w w':=by
 obtain⟨T,U,rfl,V,I,_⟩:=q.shape;unfold maxLen at I;by_cases o:l.length<=4;· have J:(l.length:Int)<=4:=(by omega);have m:=ad (F3 l o);rw [m.out];go_enter Tryz.func23, Tryz.ntmps23;go_wp2_with fail;go_ret2;exact⟨rfl,Fr.refl w⟩
 · have J:¬(l.length:Int)<=4:=(by omega);obtain⟨X,D⟩:=j9 eB 29 Tryz.underlying29 q 4 (by omega);have y:=fun W (h:Fr w W)=>rz _ (l.take 4) W (D.fr h);have Y:=ad y;have K:=y w (Fr.refl w);clear y;have Z:(4:Int)<l.length:=(by omega);by_cases d:l.take 4=[70,73,82,75]
   · rw [d]at K;obtain⟨b,L,cp,F,z⟩:=q.cell1 Fk.u8 rfl 4 (by omega);simp only [ed]at F;obtain⟨rfl,M,rfl⟩:=F;clear M;rw [<- kA l 4 0 (by omega)]at z;have ab:w.cell? ⟨b,L+4,none⟩=some (.int .u8 ((l.getD 4 0).toNat:Int)):=z;have O:=ad (F0 l o d);have Q:=ad (F5 l o d);have R:=ad (fun x=>ik x 1 3);have ac:=(l.getD 4 0).toNat_lt;generalize (l.getD 4 0).toNat=x at *;generalize bS l=mv at *;have av:IntKind.i64.wrap (x:Int)=(x:Int):=mV _ (by omega);clear z D d;go_enter Tryz.func23, Tryz.ntmps23;go_wp2_with fail;refine((R.out _) _).mono ?_;rintro e w1 ⟨rfl,rfl⟩;by_cases G:1<=x/\x<=3;· have m:=ad (O.out G);have A:decide ((1:Int)<=(x:Int)/\(x:Int)<=3)=true:=bs (by omega);rw [A];go_wp2_with fail;go_ret2;exact⟨by rw [m.out];rfl,Fr.refl w⟩
     · have m:=ad (Q.out G);have A:decide ((1:Int)<=(x:Int)/\(x:Int)<=3)=false:=bi (by omega);rw [A];go_wp2_with fail;go_ret2;exact⟨by rw [m.out];rfl,Fr.refl w⟩
   · have m:=ad (F6 l o d);rw [m.out];have a2:¬(⟨(l.take 4).toArray⟩:ByteArray)=⟨#[70,73,82,75]⟩:=(by intro e;have:=fX (fun b:ByteArray=>b.data.toList) e;exact d (by simpa using this));have a3:(l.take 4 == [70,73,82,75])=false:=(by simpa using d);have a4:¬(l.take 4).toArray=#[70,73,82,75]:=fun e=>d (by simpa using fX Array.toList e);go_enter Tryz.func23, Tryz.ntmps23;go_wp2_with fail;go_ret2;exact⟨rfl,Fr.refl w⟩
theorem GL(l:List UInt8):(fw l=0)↔iE l=true:=by
 unfold fw;cases h:iE l;· simp;split <;> omega
 · simp
theorem zR(v:Value)(l:List UInt8)(w:World)(m:af w eB v l)(U:l.length<=1000000)(I:bU w) :
  Calls Tryz.prog 96 #[v] w fun e w'=>e=.returned (.bool (jX l))/\Fr w w':=by
 have V:=ad (vz v l w m U I);have J:=ad (fun W (h:Fr w W)=>vo v l W (m.fr h));have o:Hid (jX l=(iE l && decide (bS l=(3,0)))):=rfl;have K:=ad (GL l);obtain⟨a0,ac,rfl,_⟩:=m.shape;clear m I;generalize jX l=R at *;generalize X:bS l=Y at *;obtain⟨A,L⟩:=Y;clear X;generalize iE l=M at *;generalize fw l=O at *;generalize eN l=q at *;simp only at J;go_enter Tryz.func96, Tryz.ntmps96;go_wp2_with fail;refine(V.out).mono ?_;rintro e w1 ⟨u,rfl,Q,T⟩;obtain⟨p1,z1,rfl⟩:=Q.shape';clear Q;go_wp2_with fail;refine(J.out _ T).mono ?_;rintro e w2 ⟨rfl,Z⟩;have y:=T.trans Z;by_cases z:O=0
 · have D:=K.out.1 z;subst D z;by_cases F:L=0
   · subst F;by_cases G:A=3;· subst G;have d:Hid (R=true):=(by show _=_;rw [o.out];rfl);go_wp2_with fail;go_ret;exact⟨by rw [d.out];rfl,y⟩
     · have aa:¬(A:Int)=3:=(by omega);have d:Hid (R=false):=(by show _=_;rw [o.out,Bool.true_and];exact bi (fun e=>G (Prod.mk.inj e).1));have hb:((A:Int) == 3)=false:=(by simpa using aa);clear G;go_wp2_with fail;go_ret;exact⟨by rw [d.out];rfl,y⟩
   · have a3:¬(L:Int)=0:=(by omega);have d:Hid (R=false):=(by show _=_;rw [o.out,Bool.true_and];exact bi (fun e=>F (Prod.mk.inj e).2));clear F;go_wp2_with fail;go_ret;exact⟨by rw [d.out];rfl,y⟩
 · have D:M=false:=(by cases M;rfl;exact absurd (K.out.2 rfl) z);have a4:¬(O:Int)=0:=(by omega);have d:Hid (R=false):=(by show _=_;rw [o.out,D];rfl);clear z;go_wp2_with fail;go_ret;exact⟨by rw [d.out];rfl,y⟩
theorem Ho(v:Value)(l:List UInt8)(w:World)(d:af w eB v l)(h:l.length<42) :
  Calls Tryz.prog 95 #[v] w fun e w'=>e=.returned (.tuple #[.slice none 0 0,.slice none 0 0,.bool false])/\Fr w w':=by
 obtain⟨m,o,rfl,_⟩:=d.shape;have q:(l.length:Int)<42:=by omega
 go_enter Tryz.func95, Tryz.ntmps95;go_wp2_with fail;exact b6Qb (v:=.tuple #[.slice none 0 0,.slice none 0 0,.bool false]) (by simp [results,Tryz.results95,go_sem, *]) rfl ⟨rfl,Fr.refl w⟩
theorem Hp(v:Value)(l:List UInt8)(w:World)(d:af w eB v l)(M:42<=l.length) :
  Calls Tryz.prog 95 #[v] w fun e w'=>∃ h o,e=.returned (.tuple #[h,o,.bool true])/\af w' eB h (l.take 21)/\af w' eB o (l.drop (l.length - 21))/\Fr w w':=by
 obtain⟨z,D,rfl,O,F,_⟩:=d.shape;unfold maxLen at F;have Q:¬(l.length:Int)<42:=by omega
 obtain⟨R,q⟩:=j9 eB 29 Tryz.underlying29 d 21 (by omega);obtain⟨G,I,T,y⟩:=kp eB 29 Tryz.underlying29 d (l.length - 21) (by omega);have U:IntKind.i64.wrap ((l.length:Int) - 21)=((l.length - 21:Nat):Int):=by rw [show(l.length:Int) - 21=((l.length - 21:Nat):Int) by omega];exact ar _ (by omega)
 have J:=ad q;have K:=ad y;clear q y d;generalize l.length - (l.length - 21)=m at *;generalize L:l.length - 21=k at *;clear L;go_enter Tryz.func95, Tryz.ntmps95;go_wp2_with fail;go_quiet (fail);go_wp2_with fail;exact b6Qb (v:=.tuple #[.slice z 21 D,.slice G m I,.bool true]) (by simp [results,Tryz.results95,go_sem, *]) rfl ⟨_,_,rfl,J.out.fr ((Fr.refl w).drewN _),K.out.fr ((Fr.refl w).drewN _),(Fr.refl w).drewN _⟩
def rf(l:List UInt8):List UInt8:=if jX (l.take 21)then l.take 21 else l.drop (l.length - 21)
def im(l:List UInt8):Bool:=jX (l.take 21) || jX (l.drop (l.length - 21))
theorem Ie(v:Value)(l:List UInt8)(w:World)(d:af w eB v l)(h:l.length<42) :
  Calls Tryz.prog 50 #[v] w fun e w'=>e=.returned (.tuple #[.slice none 0 0,.int .i64 1])/\Fr w w':=by
 have m:=ad (Ho v l w d h);obtain⟨q,y,rfl,_⟩:=d.shape;clear d;go_enter Tryz.func50, Tryz.ntmps50;go_wp2_with fail;refine(m.out).mono ?_;rintro e z ⟨rfl,o⟩;go_wp2_with fail;go_ret2;exact⟨rfl,o⟩
theorem If(v:Value)(l:List UInt8)(w:World)(y:af w eB v l)(X:42<=l.length)(z:bU w) :
  Calls Tryz.prog 50 #[v] w fun e w'=>∃ u,e=.returned (.tuple #[u,.int .i64 ((if im l then 0 else 5:Nat):Int)])/\(im l=true->af w' eB u (rf l))/\(im l=false->u=.slice none 0 0)/\Fr w w':=by
 have Y:=ad (Hp v l w y X);have Z:=ad (fun W m (h:af W eB m (l.take 21)) (A:Fr w W)=>zR m (l.take 21) W h (by rw [aV];omega) (z.fr A));have H2:=ad (fun W m (h:af W eB m (l.drop (l.length - 21))) (A:Fr w W)=>zR m (l.drop (l.length - 21)) W h (by rw [bN];omega) (z.fr A));have D:Hid (im l=(jX (l.take 21) || jX (l.drop (l.length - 21)))):=rfl;have M:Hid (rf l=if jX (l.take 21)then l.take 21 else l.drop (l.length - 21)):=rfl;obtain⟨a0,a4,rfl,_⟩:=y.shape;clear y z;generalize l.take 21=O at *;generalize l.drop (l.length - 21)=Q at *;generalize jX O=b1 at *;generalize jX Q=b2 at *;generalize im l=R at *;generalize rf l=H at *;obtain⟨ec,F⟩:∃ q:Nat,q=(if R then 0 else 5):=⟨_,rfl⟩;rw [<- F];have G:=ad F;clear F;go_enter Tryz.func50, Tryz.ntmps50;go_wp2_with fail;refine(Y.out).mono ?_;rintro e w1 ⟨m,v2,rfl,I,J,T⟩;have av:=ad (Z.out w1 m I T);obtain⟨p1,z1,rfl,_⟩:=I.shape;obtain⟨p2,z2,rfl,_⟩:=J.shape;go_wp2_with fail;refine(av.out).mono ?_;rintro e w2 ⟨rfl,o⟩;have K:=T.trans o
 cases b1 with
 | true=>have d:Hid (R=true):=(by show _=_;rw [D.out];rfl);have L:Hid (H=O):=(by show _=_;rw [M.out];rfl);go_wp2_with fail;go_ret2;exact⟨_,by rw [G.out,d.out];rfl,fun _=>by rw [L.out];exact I.fr o,fun h=>(by rw [d.out]at h;cases h),K⟩
 | false=>
  have L:Hid (H=Q):=(by show _=_;rw [M.out];rfl);have a2:=ad (H2.out w2 _ (J.fr o) K);go_wp2_with fail;refine(a2.out).mono ?_;rintro e w3 ⟨rfl,U⟩;have V:=K.trans U
  cases b2 with
  | true=>have d:Hid (R=true):=(by show _=_;rw [D.out];rfl);go_wp2_with fail;go_ret2;exact⟨_,by rw [G.out,d.out];rfl,fun _=>by rw [L.out];exact J.fr (o.trans U),fun h=>(by rw [d.out]at h;cases h),V⟩
  | false=>have d:Hid (R=false):=(by show _=_;rw [D.out];rfl);go_wp2_with fail;go_ret2;exact⟨_,by rw [G.out,d.out];rfl,fun h=>(by rw [d.out]at h;cases h),fun _=>rfl,V⟩
theorem Jh(v:Value)(l:List UInt8)(w:World)(d:af w eB v l)(G:bU w) :
  Calls Tryz.prog 24 #[v] w fun e w'=>e=.returned (.bool (decide (42<=l.length) && im l))/\Fr w w':=by
 by_cases y:l.length<42;· have h:=ad (Ie v l w d y);have m:Hid ((decide (42<=l.length) && im l)=false):=(by show _=_;rw [bi (by omega),Bool.false_and]);obtain⟨K,L,rfl,_⟩:=d.shape;rw [m.out];clear d y;go_enter Tryz.func24, Tryz.ntmps24;go_wp2_with fail;refine(h.out).mono ?_;rintro e M ⟨rfl,o⟩;go_wp2_with fail;go_ret;exact⟨rfl,o⟩
 · have h:=ad (If v l w d (by omega) G);have m:Hid ((decide (42<=l.length) && im l)=im l):=(by show _=_;rw [bs (by omega),Bool.true_and]);obtain⟨K,L,rfl,_⟩:=d.shape;rw [m.out];clear m d G y;generalize rf l=H at *;generalize im l=R at *;obtain⟨I,A⟩:∃ q:Nat,q=(if R then 0 else 5):=⟨_,rfl⟩;rw [<- A]at h;have J:=ad A;clear A;go_enter Tryz.func24, Tryz.ntmps24;go_wp2_with fail;refine(h.out).mono ?_;rintro e M ⟨u,rfl,O,Q,o⟩
   cases R with
   | true=>have D:I=0:=J.out;obtain⟨p,z,F,_⟩:=(O rfl).shape;subst D F;go_wp2_with fail;go_ret;exact⟨rfl,o⟩
   | false=>have D:I=5:=J.out;have F:=Q rfl;subst D F;go_wp2_with fail;go_ret;exact⟨rfl,o⟩
end Go.Proofs.YtdamnfpigajmoaaGreatDoor
