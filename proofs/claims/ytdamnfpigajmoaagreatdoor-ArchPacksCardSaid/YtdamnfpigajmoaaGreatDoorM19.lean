/- Parts of the proof of ArchPacks: L6 Q5 Q6 Ck Cl U3 U9 Ub U0 U7. -/
import Derived.Test.YtdamnfpigajmoaaGreatDoorM18
import Derived.Test.YtdamnfpigajmoaaGreatDoorM09
import Derived.Test.YtdamnfpigajmoaaGreatDoorM17
import Derived.Test.YtdamnfpigajmoaaGreatDoorM10
import Derived.Test.YtdamnfpigajmoaaGreatDoorM15
import Derived.Test.YtdamnfpigajmoaaGreatDoorM07
import Derived.Test.YtdamnfpigajmoaaGreatDoorM12
set_option linter.unusedVariables false
set_option linter.unusedSectionVars false
set_option linter.unusedSimpArgs false
set_option maxHeartbeats 8000000
set_option maxRecDepth 100000
namespace Go.Fk
abbrev lpQb:=@beq_eq_false_iff_ne
end Go.Fk
namespace Go.Proofs.YtdamnfpigajmoaaGreatDoor
open Go.RowKit Go.Fk
structure gp where
 it:It
 hd:Hd
def dO:al Tryz.prog gp:=⟨312,2,32,⟨⟨0,false,[]⟩,⟨none,0,0⟩⟩,.agg #[.int .u64 0,.slice none 0 0],fun x=>[.int .u64 (x.it.w.toNat:Int),x.hd.v],by kernel_rfl,by decide,by decide,by simp [Value.cells],fun _=>rfl,by intro x u d;simp at d;rcases d with rfl | rfl <;> rfl⟩
def uW(w:World)(d:List gp):Prop:=∀ m∈d,af w eJ m.hd.v m.it.syms
theorem uW.fr{w w':World}{d:List gp}(h:uW w d)(e:Fr w w'):uW w' d:=fun m o=>(h m o).fr e
theorem lB{w:World}{v:Value}{l:List gp}(h:af w dO v l)(k:Nat)(m:k<l.length) :
  ∃ b d o,v=.slice (some ⟨b,d,none⟩) l.length o/\w.cell? ⟨b,d+k*2,none⟩=some (.int .u64 (l[k].it.w.toNat:Int))/\w.cell? ⟨b,d+k*2+1,none⟩=some l[k].hd.v:=by
 obtain⟨b,d,o,rfl,A,D,q⟩:=h.cells (by intro e;simp [e]at m);have y:=q k m 0 (by decide) _ rfl;have z:=q k m 1 (by decide) _ rfl;exact⟨b,d,o,rfl,by simpa [dO] using y,by simpa [dO,mJ] using z⟩
theorem JQ(va vb:Value)(o d:List gp)(w:World)(ha:af w dO va o)(hb:af w dO vb d)(hn:o.length<=1000000)(hm:d.length<=2000000) :
  Calls Tryz.prog 231 #[va,vb] w fun e w'=>∃ v,e=.returned v/\∃ ms,Ow w' w.heap.size dO v ms/\ms.map (·.it)=bj (o.map (·.it)) (d.map (·.it))/\(∀ m∈ms,m∈o\/m∈d)/\Fr w w':=by
 obtain⟨a,bB,rfl,bR,bc,ca⟩:=ha.shape;obtain⟨a',cc,rfl,cf,bd,ch⟩:=hb.shape;unfold maxLen at bc bd;have bf:Hid (bj (o.map (·.it)) (d.map (·.it))=([]:List gp).map (·.it)++bj ((o.drop 0).map (·.it)) ((d.drop 0).map (·.it))):=by show _=_;simp
 generalize bj (o.map (·.it)) (d.map (·.it))=R at *;go_enter Tryz.func231, Tryz.ntmps231;go_wp2_with fail;go_loopw [5,6,7] (fun ov iv kv wr=>∃ (i k:Nat) (m:List gp),i<=o.length/\k<=d.length/\iv=N i/\kv=N k/\m.length<=i+k/\Ow wr w.heap.size dO ov m/\Hid (R=m.map (·.it)++bj ((o.drop i).map (·.it)) ((d.drop k).map (·.it)))/\Hid (∀ x∈m,x∈o\/x∈d)/\Fr w wr) (fun _ iv kv _=>o.length - (intOf iv).toNat+(d.length - (intOf kv).toNat));case atStart=>exact⟨0,0,[],ap _,ap _,rfl,rfl,by simp,Ow.nil,bf,ad (fun x h=>by simp at h),Fr.refl w⟩
 case round=>
  obtain⟨i,k,m,hi,hk,rfl,rfl,cj,I,G,K,A⟩:=hrel;have j1:(0:Int)<=i:=(by omega);have j2:(0:Int)<=k:=(by omega);by_cases av:i<o.length
  · have bt:(i:Int)<o.length:=(by omega);obtain⟨b,cn,cp,hv,V,X⟩:=lB (ha.fr A) i av;have O:=ad (cM av);have bv:=ad (aH av);generalize o[i]=x at *;cases hv;have cs:=fY x.it.w;have a0:Hid (∀ y∈m++[x],y∈o\/y∈d):=fun y hy=>by
     rcases ju.1 hy with h | h;· exact K.out y h
     · rw [lu.1 h];exact .inl bv.out
    by_cases L:k<d.length
    · have a1:(k:Int)<d.length:=(by omega);have bb:((k:Int) == d.length)=false:=(by simp;omega);have bz:k≠d.length:=(by omega);obtain⟨b2,b1,b3,a2,Q,T⟩:=lB (hb.fr A) k L;have M:=ad (cM L);have a3:=ad (aH L);generalize d[k]=y at *;cases a2;have b4:=fY y.it.w;have Y:=ad (wG x.it.w y.it.w);have Z:Hid (∀ z∈m++[y],z∈o\/z∈d):=fun z hz=>by
       rcases ju.1 hz with h | h;· exact K.out z h
       · rw [lu.1 h];exact .inr a3.out
      by_cases U:x.it.w<=y.it.w
      · have b5:(x.it.w.toNat:Int)<=y.it.w.toNat:=Y.out.1 U;have J:Hid (R=(m++[x]).map (·.it)++bj ((o.drop (i+1)).map (·.it)) ((d.drop k).map (·.it))):=(by show _=_;rw [G.out,O.out,M.out,fL,fL,bj,ai U];simp);clear G O M Y U K Z;go_upto_region 4 with fail;go_quiet (fail);have D:=I.fr ((Fr.refl wr).drewN nq);have q:=A.trans ((Fr.refl wr).drewN nq);replace V:=((Fr.refl wr).drewN nq).cell V;replace X:=((Fr.refl wr).drewN nq).cell X;clear I A Q T;generalize wr.drewN nq=w5 at *;go_wp2_with (at_builtin;refine aM dO rfl (.tmp 41) (.tmp 46) 310 rfl Tryz.underlying310 w.heap.size rfl D [x] _ _ _ rfl rfl rfl (by simp;omega) q.size ?_);intro v' w4 F;go_wp2_with fail;go_roundw;case rel=>exact⟨i+1,k,m++[x],by omega,hk,by go_num,rfl,by simp;omega,F.own,J,a0,F.below D q (ag _) q.size⟩
        case measure=>simp [intOf];omega
      · have b5:¬(x.it.w.toNat:Int)<=y.it.w.toNat:=fun e=>U (Y.out.2 e);have J:Hid (R=(m++[y]).map (·.it)++bj ((o.drop i).map (·.it)) ((d.drop (k+1)).map (·.it))):=(by show _=_;rw [G.out,O.out,M.out,fL,fL,bj,ah U];simp);clear G O M Y U K a0;go_upto_region 4 with fail;go_quiet (fail);have D:=I.fr ((Fr.refl wr).drewN nq);have q:=A.trans ((Fr.refl wr).drewN nq);replace Q:=((Fr.refl wr).drewN nq).cell Q;replace T:=((Fr.refl wr).drewN nq).cell T;clear I A V X;generalize wr.drewN nq=w5 at *;go_wp2_with (at_builtin;refine aM dO rfl (.tmp 50) (.tmp 55) 310 rfl Tryz.underlying310 w.heap.size rfl D [y] _ _ _ rfl rfl rfl (by simp;omega) q.size ?_);intro v' w4 F;go_wp2_with fail;go_roundw;case rel=>exact⟨i,k+1,m++[y],hi,by omega,rfl,by go_num,by simp;omega,F.own,J,Z,F.below D q (ag _) q.size⟩
        case measure=>simp [intOf];omega
    · obtain rfl:k=d.length:=(by omega);have a1:¬(d.length:Int)<d.length:=(by omega);have bb:((d.length:Int) == d.length)=true:=(by simp);have J:Hid (R=(m++[x]).map (·.it)++bj ((o.drop (i+1)).map (·.it)) ((d.drop d.length).map (·.it))):=(by show _=_;rw [G.out,O.out,fZ,lw,lH,lH];simp);clear G O K;go_upto_region 4 with fail;go_quiet (fail);have D:=I.fr ((Fr.refl wr).drewN nq);have q:=A.trans ((Fr.refl wr).drewN nq);replace V:=((Fr.refl wr).drewN nq).cell V;replace X:=((Fr.refl wr).drewN nq).cell X;clear I A;generalize wr.drewN nq=w5 at *;go_wp2_with (at_builtin;refine aM dO rfl (.tmp 41) (.tmp 46) 310 rfl Tryz.underlying310 w.heap.size rfl D [x] _ _ _ rfl rfl rfl (by simp;omega) q.size ?_);intro v' w4 F;go_wp2_with fail;go_roundw;case rel=>exact⟨i+1,d.length,m++[x],by omega,ag _,by go_num,rfl,by simp;omega,F.own,J,a0,F.below D q (ag _) q.size⟩
      case measure=>simp [intOf];omega
  · obtain rfl:i=o.length:=(by omega);have bt:¬(o.length:Int)<o.length:=(by omega);by_cases L:k<d.length
    · have a1:(k:Int)<d.length:=(by omega);have bb:((k:Int) == d.length)=false:=(by simp;omega);have bz:k≠d.length:=(by omega);obtain⟨b2,b1,b3,a2,Q,T⟩:=lB (hb.fr A) k L;have M:=ad (cM L);have a3:=ad (aH L);generalize d[k]=y at *;cases a2;have b4:=fY y.it.w;have Z:Hid (∀ z∈m++[y],z∈o\/z∈d):=fun z hz=>by
       rcases ju.1 hz with h | h;· exact K.out z h
       · rw [lu.1 h];exact .inr a3.out
      have J:Hid (R=(m++[y]).map (·.it)++bj ((o.drop o.length).map (·.it)) ((d.drop (k+1)).map (·.it))):=(by show _=_;rw [G.out,M.out,fZ,lw,n8,n8];simp);clear G M K;go_upto_region 4 with fail;go_quiet (fail);have D:=I.fr ((Fr.refl wr).drewN nq);have q:=A.trans ((Fr.refl wr).drewN nq);replace Q:=((Fr.refl wr).drewN nq).cell Q;replace T:=((Fr.refl wr).drewN nq).cell T;clear I A;generalize wr.drewN nq=w5 at *;go_wp2_with (at_builtin;refine aM dO rfl (.tmp 50) (.tmp 55) 310 rfl Tryz.underlying310 w.heap.size rfl D [y] _ _ _ rfl rfl rfl (by simp;omega) q.size ?_);intro v' w4 F;go_wp2_with fail;go_roundw;case rel=>exact⟨o.length,k+1,m++[y],ag _,by omega,rfl,by go_num,by simp;omega,F.own,J,Z,F.below D q (ag _) q.size⟩
      case measure=>simp [intOf];omega
    · obtain rfl:k=d.length:=(by omega);have a1:¬(d.length:Int)<d.length:=(by omega);have J:Hid (R=m.map (·.it)):=(by show _=_;rw [G.out,fZ,fZ,lw,lH,dm]);clear G;go_wp2_with fail;go_ret;exact⟨_,rfl,m,I,J.out.symm,K.out,A⟩
def ce(l:List am):List UInt8:=gd 0 (l.map fun r=>r.time.toNat)++dG (l.map (·.level))
theorem wP(d:Nat)(l:List am)(k:Nat)(h:k<l.length):gd d ((l.drop k).map fun r=>r.time.toNat)=ao (eG (kB l[k].time.toNat d))++gd l[k].time.toNat ((l.drop (k+1)).map fun r=>r.time.toNat):=by
 rw [cM h,fL,gd]
theorem zJ(t d:Nat)(e:t<18446744073709551616)(h:d<18446744073709551616):IntKind.u64.wrap ((t:Int) - d)=((kB t d:Nat):Int):=by
 rw [mQ];unfold kB;omega
theorem vZ(d:Nat)(e:d<18446744073709551616):eG d<18446744073709551616:=by unfold eG;split <;> omega
abbrev Dv:Value->Nat
 | .slice _ n _=>n
 | _=>0
theorem Lr(v:Value)(l:List am)(w:World)(hs:af w eR v l)(hl:l.length<=20000) :
  Calls Tryz.prog 62 #[v] w fun e w'=>∃ v,e=.returned v/\Ow w' w.heap.size eB v (ce l)/\Fr w w':=by
 obtain⟨a,co,rfl,d3,cp,d4⟩:=hs.shape;unfold maxLen at cp;have HZ:=ad Jb;have HN:=ad jK;go_enter Tryz.func62, Tryz.ntmps62;go_wp2_with fail;go_loopw [3,4,10] (fun ov tv iv wr=>∃ (k y:Nat) (m:List UInt8),k<=l.length/\iv=N k/\tv=.int .u64 (y:Int)/\Hid (y<18446744073709551616)/\m.length<=k*10/\Ow wr w.heap.size eB ov m/\Hid (gd 0 (l.map fun r=>r.time.toNat)=m++gd y ((l.drop k).map fun r=>r.time.toNat))/\Fr w wr) (fun _ _ iv _=>l.length - (intOf iv).toNat);case atStart=>exact⟨0,0,[],ap _,rfl,rfl,ad (by decide),by simp,Ow.nil,rfl,Fr.refl w⟩
 case round=>
  obtain⟨k,y,m,hk,rfl,rfl,HW,d6,ac,HM,hf⟩:=hrel;by_cases bB:k<l.length;· obtain⟨b,cx,cy,hv,c0,c1,c2,c3⟩:=gh (hs.fr hf) k bB;have a0:Hid (gd 0 (l.map fun r=>r.time.toNat)=(m++ao (eG (kB l[k].time.toNat y)))++gd l[k].time.toNat ((l.drop (k+1)).map fun r=>r.time.toNat)):=(by show _=_;rw [HM.out,wP y l k bB];simp);clear HM;have HT:=ad (fY l[k].time);generalize l[k]=r at *;have dT:=zJ r.time.toNat y HT.out HW.out;have HD:=ad (ur r.time.toNat y);generalize kB r.time.toNat y=d at *;have cz:=ad (HZ.out d HD.out);have cb:=ad (vZ d HD.out);have a1:=aG (eG d) cb.out;have c4:=ad (HN.out (eG d) cb.out);generalize eG d=z at *;generalize ao z=G at *;cases hv;have i1:(0:Int)<=k:=(by omega);have i2:(k:Int)<l.length:=(by omega);go_wp2_with fail;refine cz.out _ |>.mono ?_;rintro e w0 ⟨rfl,rfl⟩;go_wp2_with fail;refine(c4.out _).mono ?_;rintro e w1 ⟨v1,rfl,c7,L⟩;have bk:=hf.alloc (.cells #[.int .u64 r.time.toNat,Fk.u8 r.level,S r.source,S r.text] 37);have cc:=(ac.fr ((Fr.refl wr).alloc (.cells #[.int .u64 r.time.toNat,Fk.u8 r.level,S r.source,S r.text] 37))).fr L;go_wp2_with (at_builtin;refine aN eB rfl (.tmp 14) (.tmp 20) 29 rfl Tryz.underlying29 w.heap.size rfl cc _ _ rfl c7.see (by omega) (bk.trans L).size ?_);intro v' w4 A;have er:w4.cell? ⟨wr.heap.size,0,none⟩=some (.int .u64 r.time.toNat):=(by rw [World.cell?_of_block (A.chg.block wr.heap.size (by have:=L.size;simp at this;omega) (fun e=>by have:=(ac.lt _ e.symm).2;omega))];exact L.cell (by rw [vG _ _ _ _ rfl];rfl));go_wp2_with fail;exact⟨⟨k+1,r.time.toNat,m++G,by omega,by go_num,rfl,HT.out,by rw [an];omega,A.own,a0.out,A.below cc (bk.trans L) (ag _) (bk.trans L).size⟩,by simp [intOf];omega⟩
  · obtain rfl:k=l.length:=(by omega);have a1:¬((l.length:Int)<l.length):=(by omega);have a0:Hid (ce l=m++dG (l.map (·.level))):=(by have h:=HM.out;rw [fZ,lw,gd,dm]at h;show _=_;unfold ce;rw [h]);clear HM;go_wp2_with fail;go_loopw [0,3] (fun sv ov M=>∃ (d:List am) (a:Option Addr) (c:Nat) (m:List UInt8),d.length<=l.length/\sv=.slice a d.length c/\af w eR (.slice a d.length c) d/\m.length+d.length*11<=l.length*21/\Ow M w.heap.size eB ov m/\Hid (ce l=m++dG (d.map (·.level)))/\Fr w M) (fun sv _ _=>Dv sv);case atStart=>exact⟨l,a,co,m,ag _,rfl,hs,by omega,ac,a0.out,hf⟩
    case round=>
     generalize wr=M at *;obtain⟨d,a2,c2,q,ev,rfl,a3,e0,bn,HC,Q⟩:=hrel;clear ac hf a0;by_cases cf:0<d.length
     · obtain⟨b,cx,cy,hv,x0,O,x2,x3⟩:=gh (a3.fr Q) 0 cf;have ch:=ad (yR (d.map (·.level)) 0 (by simpa using cf));have cj:Hid (ce l=q++eh d[0].level 1 ((d.map (·.level)).drop 1)):=(by show _=_;rw [HC.out];have:=ch.out;simp at this;rw [this];simp);clear HC ch;have HQ:Hid (∀ (n:Nat) (hn:n<d.length),(d[n].level=d[0].level->eh d[0].level n ((d.map (·.level)).drop n)=eh d[0].level (n+1) ((d.map (·.level)).drop (n+1)))/\(d[n].level≠d[0].level->eh d[0].level n ((d.map (·.level)).drop n)=(d[0].level::ao n)++dG ((d.drop n).map (·.level)))):=(by intro n hn;refine⟨fun h=>tX _ _ _ n (by simpa using hn) (by simpa using h),fun h=>?_⟩;rw [tY _ _ _ n (by simpa using hn) (by simpa using h),List.map_drop]);have a5:Hid (eh d[0].level d.length ((d.map (·.level)).drop d.length)=(d[0].level::ao d.length)++dG ((d.drop d.length).map (·.level))):=(by show _=_;rw [tZ _ _ _ _ (by simp),List.map_drop]);obtain⟨o,b0⟩:∃ o,d[0]=o:=⟨_,rfl⟩;rw [b0]at x0 O x2 x3 cj HQ a5;have e1:=ad b0;clear b0;cases hv;have c8:(0:Int)<d.length:=(by omega);go_wp2_with fail;go_loopw [7] (fun nv c9=>∃ n:Nat,1<=n/\n<=d.length/\nv=N n/\Fr M c9/\Hid (ce l=q++eh o.level n ((d.map (·.level)).drop n))) (fun nv _=>d.length - (intOf nv).toNat);case atStart=>exact⟨1,ag _,by omega,rfl,Fr.refl _,cj.out⟩
       case round=>
        obtain⟨n,e2,cl,rfl,R,T⟩:=hrel;have z1:=R.cell O;by_cases a1:n<d.length
        · obtain⟨b',e5,a6,cA,y0,y1,y2,y3⟩:=gh (a3.fr (Q.trans R)) n a1;cases cA;have U:=HQ.out n a1;obtain⟨V,cm⟩:∃ V,d[n]=V:=⟨_,rfl⟩;rw [cm]at y0 y1 y2 y3 U;clear cm;have i1:(0:Int)<=n:=(by omega);have i2:(n:Int)<d.length:=(by omega);by_cases a7:V.level=o.level;· have D:=ad (U.1 a7);have dd:((V.level.toNat:Int) == o.level.toNat)=true:=(by rw [a7];simp);clear U;go_upto_region 11 with fail;go_quiet (fail);go_wp2_with fail;exact⟨⟨n+1,by omega,by omega,by go_num,R.drewN _,by show _=_;rw [T.out,D.out]⟩,by simp [intOf];omega⟩
          · have D:=ad (U.2 a7);have dd:((V.level.toNat:Int) == o.level.toNat)=false:=(by rw [lpQb];intro h;exact a7 (gq.1 (by omega)));clear U;go_upto_region 11 with fail;go_quiet (fail);go_upto_region 13 with fail;have D:Hid (ce l=q++((o.level::ao n)++dG ((d.drop n).map (·.level)))):=(by show _=_;rw [T.out,D.out]);clear T HQ a5;generalize X:wr.drewN nq=WW at *;obtain⟨b3,a6,di,b4⟩:=tj eR 24 Tryz.underlying24 a3 n cl;have I:Fr M WW:=(by rw [<- X];exact R.drewN _);have dj:=I.cell O;clear X x0 O x2 x3;have Y:=bn.fr I;have J:=Q.trans I;have dk:=aG n (by omega);have b5:=ad (HN.out n (by omega));have b8:Hid (ce l=(q++o.level::ao n)++dG ((d.drop n).map (·.level))):=(by show _=_;rw [D.out];simp);generalize ao n=G at *;go_wp2_with (at_builtin;refine aM eB rfl (.tmp 46) (.tmp 51) 29 rfl Tryz.underlying29 w.heap.size rfl Y [o.level] _ _ _ rfl rfl rfl (by simp;omega) J.size ?_);intro v4 w4 A;have F:=A.own;have Z:=A.below Y J (ag _) J.size;go_wp2_with fail;refine(b5.out _).mono ?_;rintro e w5 ⟨v5,rfl,bA,aa⟩;have F:=F.fr aa;have K:=Fr.below Z (Fr.size Z) aa;go_wp2_with (at_builtin;refine aN eB rfl (.tmp 52) (.tmp 55) 29 rfl Tryz.underlying29 w.heap.size rfl F _ _ rfl bA.see (by simp;omega) (Fr.size K) ?_);intro v6 w6 ab;go_wp2_with fail;have d1:q.length+G.length+1+(d.length - n)*11<=l.length*21:=(by omega);refine⟨⟨d.drop n,some ⟨b,b3,none⟩,a6,q++o.level::G,by rw [bN];omega,by rw [bN],by rw [bN];exact b4,by rw [bN];simp;omega,ab.own,b8.out,ab.below F K (ag _) (Fr.size K)⟩,by show d.length - n<d.length;omega⟩
        · obtain rfl:n=d.length:=(by omega);have cn:=a5.out;have D:Hid (ce l=q++((o.level::ao d.length)++dG ((d.drop d.length).map (·.level)))):=(by show _=_;rw [T.out,cn]);clear T HQ a5 cn;have e6:¬((d.length:Int)<d.length):=(by omega);go_upto_region 11 with fail;go_quiet (fail);go_upto_region 13 with fail;generalize X:wr.drewN nq=WW at *;obtain⟨b3,a6,di,b4⟩:=tj eR 24 Tryz.underlying24 a3 d.length cl;have I:Fr M WW:=(by rw [<- X];exact R.drewN _);have dj:=I.cell O;clear X x0 O x2 x3;have Y:=bn.fr I;have J:=Q.trans I;have dk:=aG d.length (by omega);have b5:=ad (HN.out d.length (by omega));have b8:Hid (ce l=(q++o.level::ao d.length)++dG ((d.drop d.length).map (·.level))):=(by show _=_;rw [D.out];simp);generalize ao d.length=G at *;go_wp2_with (at_builtin;refine aM eB rfl (.tmp 46) (.tmp 51) 29 rfl Tryz.underlying29 w.heap.size rfl Y [o.level] _ _ _ rfl rfl rfl (by simp;omega) J.size ?_);intro v4 w4 A;have F:=A.own;have Z:=A.below Y J (ag _) J.size;go_wp2_with fail;refine(b5.out _).mono ?_;rintro e w5 ⟨v5,rfl,bA,aa⟩;have F:=F.fr aa;have K:=Fr.below Z (Fr.size Z) aa;go_wp2_with (at_builtin;refine aN eB rfl (.tmp 52) (.tmp 55) 29 rfl Tryz.underlying29 w.heap.size rfl F _ _ rfl bA.see (by simp;omega) (Fr.size K) ?_);intro v6 w6 ab;go_wp2_with fail;have d1:q.length+G.length+1+(d.length - d.length)*11<=l.length*21:=(by omega);refine⟨⟨d.drop d.length,some ⟨b,b3,none⟩,a6,q++o.level::G,by rw [bN];omega,by rw [bN,e8],by rw [bN,e8]at *;exact b4,by rw [bN];simp;omega,ab.own,b8.out,ab.below F K (ag _) (Fr.size K)⟩,by show 0<d.length;omega⟩
     · have c8:¬((0:Int)<d.length):=(by omega);have D:Hid (ce l=q):=(by have:d=[]:=ib (by omega);show _=_;rw [HC.out,this];simp [dG]);go_wp2_with fail;go_ret;exact⟨_,rfl,by rw [D.out];exact bn,Q⟩
theorem kU{w:World}{b d n h:Nat}{l:List am}(m:af w eR (.slice (some ⟨b,d,none⟩) n h) l)(k:Nat)(e:k<l.length):∃ x,Hid ((l.map (·.level))[k]? = some x)/\w.cell? ⟨b,d+k*4+1,none⟩=some (u8 x):=by
 obtain⟨y,z,A,o,D,q,F,G⟩:=gh m k e;cases o;exact⟨l[k].level,by show _=_;simp [e],q⟩
def mE(d:List UInt8)(i e:Nat):Prop:=e<=d.length/\(∀ j,i<=j->j<e->0<j/\d[j]? = d[j - 1]?)/\(e<d.length->e=0\/d[e]? ≠ d[e - 1]?)
theorem qG(d:List UInt8)(k n:Nat)(x:UInt8)(D:1<=n)(o:k+n<=d.length)(q:d[k]? = some x)(y:∀ j,k<j->j<k+n->d[j]? = some x)(z:k+n<d.length->d[k+n]? ≠ some x):mE d (k+1) (k+n):=by
 have e:∀ j,k<=j->j<k+n->d[j]? = some x:=fun j A m=>by
  by_cases h:j=k;· rw [h];exact q
  · exact y j (by omega) m
 refine⟨o,fun j A m=>⟨by omega,by rw [e j (by omega) m,e (j - 1) (by omega) (by omega)]⟩,fun h=>.inr ?_⟩;rw [e (k+n - 1) (by omega) (by omega)];exact z h
theorem Kx(v:Value)(l:List am)(w:World)(M:af w eR v l)(hl:l.length<=20000) :
  Calls Tryz.prog 84 #[v] w fun e w'=>∃ v,e=.returned v/\Ow w' w.heap.size eB v (ce l)/\Fr w w':=by
 obtain⟨a,fk,rfl,fl,di,fm⟩:=M.shape;unfold maxLen at di;have HZ:=ad Jt;have HN:=ad jI;go_enter Tryz.func84, Tryz.ntmps84;go_wp2_with fail;go_loopw [3,4,5] (fun ov tv iv wr=>∃ (k ac:Nat) (m:List UInt8),k<=l.length/\iv=N k/\tv=.int .u64 (ac:Int)/\Hid (ac<18446744073709551616)/\m.length<=k*10/\Ow wr w.heap.size eB ov m/\Hid (gd 0 (l.map fun r=>r.time.toNat)=m++gd ac ((l.drop k).map fun r=>r.time.toNat))/\Fr w wr) (fun _ _ iv _=>l.length - (intOf iv).toNat);case atStart=>exact⟨0,0,[],ap _,rfl,rfl,ad (by decide),by simp,Ow.nil,rfl,Fr.refl w⟩
 case round=>
  obtain⟨k,ac,m,hk,rfl,rfl,HW,fr,bR,HM,hf⟩:=hrel;by_cases O:k<l.length;· obtain⟨b,dr,ds,hv,c0,c1,c2,c3⟩:=gh (M.fr hf) k O;have b0:Hid (gd 0 (l.map fun r=>r.time.toNat)=(m++ao (eG (kB l[k].time.toNat ac)))++gd l[k].time.toNat ((l.drop (k+1)).map fun r=>r.time.toNat)):=(by show _=_;rw [HM.out,wP ac l k O];simp);clear HM;have Q:=ad (fY l[k].time);obtain⟨r,cb⟩:∃ r,l[k]=r:=⟨_,rfl⟩;rw [cb]at c0 c1 c2 c3 b0 Q;have d5:=ad cb;clear cb;have fs:=zJ r.time.toNat ac Q.out HW.out;have HD:=ad (ur r.time.toNat ac);generalize kB r.time.toNat ac=d at *;have d6:=ad (HZ.out d HD.out);have c4:=ad (vZ d HD.out);have aj:=aG (eG d) c4.out;have d7:=ad (HN.out (eG d) c4.out);generalize eG d=z at *;generalize ao z=nb at *;cases hv;have i1:(0:Int)<=k:=(by omega);have i2:(k:Int)<l.length:=(by omega);go_wp2_with fail;refine d6.out _ |>.mono ?_;rintro e w0 ⟨rfl,rfl⟩;go_wp2_with fail;refine(d7.out _).mono ?_;rintro e w1 ⟨v1,rfl,dT,cc⟩;have c5:=bR.fr cc;have cf:=hf.trans cc;have z0:=cc.cell c0;go_wp2_with (at_builtin;refine aN eB rfl (.tmp 14) (.tmp 23) 29 rfl Tryz.underlying29 w.heap.size rfl c5 _ _ rfl dT.see (by omega) cf.size ?_);intro v' w4 J;have K:=J.below c5 cf (ag _) cf.size;obtain⟨b4,f4,f5,ec,d0,d1,d2,d3⟩:=gh (M.fr K) k O;rw [d5.out]at d0;cases ec;go_wp2_with fail;exact⟨⟨k+1,r.time.toNat,m++nb,by omega,by go_num,rfl,Q.out,by rw [an];omega,J.own,b0.out,K⟩,by simp [intOf];omega⟩
  · obtain rfl:k=l.length:=(by omega);have aj:¬((l.length:Int)<l.length):=(by omega);have b0:Hid (ce l=m++dG (l.map (·.level))):=(by have h:=HM.out;rw [fZ,lw,gd,dm]at h;show _=_;unfold ce;rw [h]);clear HM;go_wp2_with fail;go_loopw [3,6] (fun ov iv R=>∃ (k e:Nat) (m:List UInt8),k<=l.length/\k<=e/\iv=N k/\m.length<=l.length*10+e*11/\e<=l.length/\Hid (mE (l.map (·.level)) k e)/\Ow R w.heap.size eB ov m/\Hid (ce l=m++dG ((l.map (·.level)).drop e))/\Fr w R) (fun _ iv _=>l.length - (intOf iv).toNat);case atStart=>exact⟨0,0,m,ap _,ag _,rfl,by omega,ap _,⟨ap _,fun j o L=>by omega,fun _=>.inl rfl⟩,bR,b0.out,hf⟩
    case round=>
     generalize wr=R at *;clear bR hf b0;obtain⟨k,e,q,ga,gb,rfl,gc,ek,Q,bv,HC,a3⟩:=hrel;by_cases O:k<l.length
     · obtain⟨b,dr,ds,hv,x0,x1,x2,x3⟩:=gh (M.fr a3) k O;clear x0 x1 x2 x3;cases hv;have i1:(0:Int)<=k:=(by omega);have i2:(k:Int)<l.length:=(by omega);obtain⟨x,T,hx⟩:=kU (M.fr a3) k O;by_cases c6:k<e;· have ch:0<k:=(Q.out.2.1 k (ag _) c6).1;obtain⟨y,U,hy⟩:=kU (M.fr a3) (k - 1) (by omega);obtain rfl:x=y:=(by have:=(Q.out.2.1 k (ag _) c6).2;rw [T.out,U.out]at this;exact ez this);have e1:Hid (mE (l.map (·.level)) (k+1) e):=⟨Q.out.1,fun j o L=>Q.out.2.1 j (by omega) L,Q.out.2.2⟩;have c8:(0:Int)<k:=(by omega);have e2:IntKind.i64.wrap ((k:Int) - 1)=((k - 1:Nat):Int):=(by rw [ar _ (by omega)];omega);have e3:k - 1<l.length:=(by omega);generalize k - 1=k1 at *;have j1:(0:Int)<=(k1:Nat):=(by omega);have j2:((k1:Nat):Int)<l.length:=(by omega);go_upto_region 11 with fail;go_quiet (fail);go_wp2_with fail;exact⟨⟨k+1,e,q,by omega,by omega,by go_num,by omega,ek,e1.out,bv.fr ((Fr.refl _).drewN _),HC.out,a3.drewN _⟩,by simp [intOf];omega⟩
       · obtain rfl:k=e:=(by omega);have cF:Hid (k=0\/(l.map (·.level))[k]? ≠ (l.map (·.level))[k - 1]?):=Q.out.2.2 (by simpa using O);have cG:Hid (ce l=q++eh x 1 ((l.map (·.level)).drop (k+1))):=(by show _=_;rw [HC.out,yR _ k (by simpa using O)];have:=T.out;rw [bo (by simpa using O)]at this;rw [ez this]);clear Q HC;by_cases ch:k=0
         · have c8:decide ((0:Int)<k)=false:=(by simp;omega);have e4:decide (0<k)=false:=(by simp;omega);clear ch cF;go_upto_region 11 with fail;go_quiet (fail);generalize b2:R.drewN nq=WW at *;have a0:Fr R WW:=(by rw [<- b2];exact(Fr.refl _).drewN _);have a6:Fr w WW:=a3.trans a0;clear b2;have a7:=a0.cell hx;go_wp2_with fail;go_loopw [7] (fun nv cj=>∃ n:Nat,1<=n/\k+n<=l.length/\nv=N n/\Fr WW cj/\Hid (ce l=q++eh x n ((l.map (·.level)).drop (k+n)))/\Hid (∀ j,k<j->j<k+n->(l.map (·.level))[j]? = some x)) (fun nv _=>l.length - (intOf nv).toNat);case atStart=>exact⟨1,ag _,by omega,rfl,Fr.refl _,cG.out,fun j o L=>by omega⟩
           case round=>
            obtain⟨n,b3,e5,rfl,F,V,X⟩:=hrel;have z1:=F.cell a7;have e7:IntKind.i64.wrap ((k:Int)+n)=(k:Int)+n:=ar _ (by omega);by_cases aj:k+n<l.length
            · obtain⟨y,U,hy⟩:=kU (M.fr (a6.trans F)) (k+n) aj;have bb:Hid (∃ h,(l.map (·.level))[k+n]'h=y):=(by have:=U.out;rw [bo (by simpa using aj)]at this;exact⟨by simpa using aj,ez this⟩);have e9:(k:Int)+n<l.length:=(by omega);have j1:(0:Int)<=(k:Int)+n:=(by omega);have j2:((k:Int)+n).toNat=k+n:=(by omega);by_cases a1:y=x
              · subst a1;have cl:Hid (ce l=q++eh y (n+1) ((l.map (·.level)).drop (k+(n+1)))):=(by obtain⟨o,L⟩:=bb.out;show _=_;rw [V.out,tX y n _ (k+n) o L,mJ]);go_upto_region 13 with fail;go_quiet (fail);go_wp2_with fail;refine⟨⟨n+1,by omega,by omega,by go_num,F.drewN _,cl.out,?_⟩,by simp [intOf];omega⟩;intro j o L;by_cases hj:j=k+n;· rw [hj];exact U.out
                · exact X.out j o (by omega)
              · have HE:Hid (ce l=q++((x::ao n)++dG ((l.map (·.level)).drop (k+n)))):=(by obtain⟨o,L⟩:=bb.out;show _=_;rw [V.out,tY x n _ (k+n) o (by rw [L];exact a1)]);have bc:Hid (mE (l.map (·.level)) (k+1) (k+n)):=qG _ k n x b3 (by simp;omega) T.out X.out (fun _ h=>by rw [U.out]at h;exact a1 (ez h));have fa:((y.toNat:Int) == x.toNat)=false:=(by rw [lpQb];intro h;exact a1 (gq.1 (by omega)));clear V X U bb;go_upto_region 13 with fail;go_quiet (fail);go_upto_region 15 with fail;generalize G:wr.drewN nq=Y at *;have A:Fr w Y:=(by rw [<- G];exact(a6.trans F).drewN _);have bd:Fr R Y:=(by rw [<- G];exact(a0.trans F).drewN _);have bf:=(kU (M.fr A) k O);obtain⟨x',bm,cn⟩:=bf;obtain rfl:x=x':=(by have:=bm.out;rw [T.out]at this;exact ez this);clear G hx a7;have Z:=bv.fr bd;have co:=aG n (by omega);have bn:=ad (HN.out n (by omega));have bt:Hid (ce l=(q++x::ao n)++dG ((l.map (·.level)).drop (k+n))):=(by show _=_;rw [HE.out];simp);generalize ao n=nb at *;go_wp2_with (at_builtin;refine aM eB rfl (.tmp 75) (.tmp 81) 29 rfl Tryz.underlying29 w.heap.size rfl Z [x] _ _ _ rfl rfl rfl (by simp;omega) A.size ?_);intro v4 w4 J;have D:=J.own;have K:=J.below Z A (ag _) A.size;go_wp2_with fail;refine(bn.out _).mono ?_;rintro e w5 ⟨v5,rfl,bu,aa⟩;have D:=D.fr aa;have I:=Fr.below K (Fr.size K) aa;go_wp2_with (at_builtin;refine aN eB rfl (.tmp 83) (.tmp 86) 29 rfl Tryz.underlying29 w.heap.size rfl D _ _ rfl bu.see (by simp;omega) (Fr.size I) ?_);intro v6 w6 ab;go_wp2_with fail;exact⟨⟨k+1,k+n,q++x::nb,by omega,by omega,by go_num,by simp;omega,by omega,bc.out,ab.own,bt.out,ab.below D I (ag _) (Fr.size I)⟩,by simp [intOf];omega⟩
            · have HE:Hid (ce l=q++((x::ao n)++dG ((l.map (·.level)).drop (k+n)))):=(by show _=_;rw [V.out,tZ x n _ (k+n) (by simp;omega)]);have bc:Hid (mE (l.map (·.level)) (k+1) (k+n)):=qG _ k n x b3 (by simp;omega) T.out X.out (fun h=>by simp at h;omega);clear V X;have da:decide ((k:Int)+n<l.length)=false:=(by simp;omega);have fb:decide (k+n<l.length)=false:=(by simp;omega);go_upto_region 13 with fail;go_quiet (fail);go_upto_region 15 with fail;generalize G:wr.drewN nq=Y at *;have A:Fr w Y:=(by rw [<- G];exact(a6.trans F).drewN _);have bd:Fr R Y:=(by rw [<- G];exact(a0.trans F).drewN _);have bf:=(kU (M.fr A) k O);obtain⟨x',bm,cn⟩:=bf;obtain rfl:x=x':=(by have:=bm.out;rw [T.out]at this;exact ez this);clear G hx a7;have Z:=bv.fr bd;have co:=aG n (by omega);have bn:=ad (HN.out n (by omega));have bt:Hid (ce l=(q++x::ao n)++dG ((l.map (·.level)).drop (k+n))):=(by show _=_;rw [HE.out];simp);generalize ao n=nb at *;go_wp2_with (at_builtin;refine aM eB rfl (.tmp 75) (.tmp 81) 29 rfl Tryz.underlying29 w.heap.size rfl Z [x] _ _ _ rfl rfl rfl (by simp;omega) A.size ?_);intro v4 w4 J;have D:=J.own;have K:=J.below Z A (ag _) A.size;go_wp2_with fail;refine(bn.out _).mono ?_;rintro e w5 ⟨v5,rfl,bu,aa⟩;have D:=D.fr aa;have I:=Fr.below K (Fr.size K) aa;go_wp2_with (at_builtin;refine aN eB rfl (.tmp 83) (.tmp 86) 29 rfl Tryz.underlying29 w.heap.size rfl D _ _ rfl bu.see (by simp;omega) (Fr.size I) ?_);intro v6 w6 ab;go_wp2_with fail;exact⟨⟨k+1,k+n,q++x::nb,by omega,by omega,by go_num,by simp;omega,by omega,bc.out,ab.own,bt.out,ab.below D I (ag _) (Fr.size I)⟩,by simp [intOf];omega⟩
         · obtain⟨y0,dd,ge⟩:=kU (M.fr a3) (k - 1) (by omega);have fc:x≠y0:=by
            intro h;rcases cF.out with o | o;· exact ch o
            · rw [T.out,dd.out,h]at o;exact o rfl
           have gs:((x.toNat:Int) == y0.toNat)=false:=(by rw [lpQb];intro h;exact fc (gq.1 (by omega)));have c8:(0:Int)<k:=(by omega);have e4:0<k:=(by omega);have e2:IntKind.i64.wrap ((k:Int) - 1)=((k - 1:Nat):Int):=(by rw [ar _ (by omega)];omega);have e3:k - 1<l.length:=(by omega);clear dd;generalize k - 1=k1 at *;have g1:(0:Int)<=(k1:Nat):=(by omega);have g2:((k1:Nat):Int)<l.length:=(by omega);go_upto_region 11 with fail;go_quiet (fail);generalize b2:R.drewN nq=WW at *;have a0:Fr R WW:=(by rw [<- b2];exact(Fr.refl _).drewN _);have a6:Fr w WW:=a3.trans a0;clear b2;have a7:=a0.cell hx;go_wp2_with fail;go_loopw [7] (fun nv cj=>∃ n:Nat,1<=n/\k+n<=l.length/\nv=N n/\Fr WW cj/\Hid (ce l=q++eh x n ((l.map (·.level)).drop (k+n)))/\Hid (∀ j,k<j->j<k+n->(l.map (·.level))[j]? = some x)) (fun nv _=>l.length - (intOf nv).toNat);case atStart=>exact⟨1,ag _,by omega,rfl,Fr.refl _,cG.out,fun j o L=>by omega⟩
           case round=>
            obtain⟨n,b3,e5,rfl,F,V,X⟩:=hrel;have z1:=F.cell a7;have e7:IntKind.i64.wrap ((k:Int)+n)=(k:Int)+n:=ar _ (by omega);by_cases aj:k+n<l.length
            · obtain⟨y,U,hy⟩:=kU (M.fr (a6.trans F)) (k+n) aj;have bb:Hid (∃ h,(l.map (·.level))[k+n]'h=y):=(by have:=U.out;rw [bo (by simpa using aj)]at this;exact⟨by simpa using aj,ez this⟩);have e9:(k:Int)+n<l.length:=(by omega);have j1:(0:Int)<=(k:Int)+n:=(by omega);have j2:((k:Int)+n).toNat=k+n:=(by omega);by_cases a1:y=x
              · subst a1;have cl:Hid (ce l=q++eh y (n+1) ((l.map (·.level)).drop (k+(n+1)))):=(by obtain⟨o,L⟩:=bb.out;show _=_;rw [V.out,tX y n _ (k+n) o L,mJ]);go_upto_region 13 with fail;go_quiet (fail);go_wp2_with fail;refine⟨⟨n+1,by omega,by omega,by go_num,F.drewN _,cl.out,?_⟩,by simp [intOf];omega⟩;intro j o L;by_cases hj:j=k+n;· rw [hj];exact U.out
                · exact X.out j o (by omega)
              · have HE:Hid (ce l=q++((x::ao n)++dG ((l.map (·.level)).drop (k+n)))):=(by obtain⟨o,L⟩:=bb.out;show _=_;rw [V.out,tY x n _ (k+n) o (by rw [L];exact a1)]);have bc:Hid (mE (l.map (·.level)) (k+1) (k+n)):=qG _ k n x b3 (by simp;omega) T.out X.out (fun _ h=>by rw [U.out]at h;exact a1 (ez h));have fa:((y.toNat:Int) == x.toNat)=false:=(by rw [lpQb];intro h;exact a1 (gq.1 (by omega)));clear V X U bb;go_upto_region 13 with fail;go_quiet (fail);go_upto_region 15 with fail;generalize G:wr.drewN nq=Y at *;have A:Fr w Y:=(by rw [<- G];exact(a6.trans F).drewN _);have bd:Fr R Y:=(by rw [<- G];exact(a0.trans F).drewN _);have bf:=(kU (M.fr A) k O);obtain⟨x',bm,cn⟩:=bf;obtain rfl:x=x':=(by have:=bm.out;rw [T.out]at this;exact ez this);clear G hx a7;have Z:=bv.fr bd;have co:=aG n (by omega);have bn:=ad (HN.out n (by omega));have bt:Hid (ce l=(q++x::ao n)++dG ((l.map (·.level)).drop (k+n))):=(by show _=_;rw [HE.out];simp);generalize ao n=nb at *;go_wp2_with (at_builtin;refine aM eB rfl (.tmp 75) (.tmp 81) 29 rfl Tryz.underlying29 w.heap.size rfl Z [x] _ _ _ rfl rfl rfl (by simp;omega) A.size ?_);intro v4 w4 J;have D:=J.own;have K:=J.below Z A (ag _) A.size;go_wp2_with fail;refine(bn.out _).mono ?_;rintro e w5 ⟨v5,rfl,bu,aa⟩;have D:=D.fr aa;have I:=Fr.below K (Fr.size K) aa;go_wp2_with (at_builtin;refine aN eB rfl (.tmp 83) (.tmp 86) 29 rfl Tryz.underlying29 w.heap.size rfl D _ _ rfl bu.see (by simp;omega) (Fr.size I) ?_);intro v6 w6 ab;go_wp2_with fail;exact⟨⟨k+1,k+n,q++x::nb,by omega,by omega,by go_num,by simp;omega,by omega,bc.out,ab.own,bt.out,ab.below D I (ag _) (Fr.size I)⟩,by simp [intOf];omega⟩
            · have HE:Hid (ce l=q++((x::ao n)++dG ((l.map (·.level)).drop (k+n)))):=(by show _=_;rw [V.out,tZ x n _ (k+n) (by simp;omega)]);have bc:Hid (mE (l.map (·.level)) (k+1) (k+n)):=qG _ k n x b3 (by simp;omega) T.out X.out (fun h=>by simp at h;omega);clear V X;have da:decide ((k:Int)+n<l.length)=false:=(by simp;omega);have fb:decide (k+n<l.length)=false:=(by simp;omega);go_upto_region 13 with fail;go_quiet (fail);go_upto_region 15 with fail;generalize G:wr.drewN nq=Y at *;have A:Fr w Y:=(by rw [<- G];exact(a6.trans F).drewN _);have bd:Fr R Y:=(by rw [<- G];exact(a0.trans F).drewN _);have bf:=(kU (M.fr A) k O);obtain⟨x',bm,cn⟩:=bf;obtain rfl:x=x':=(by have:=bm.out;rw [T.out]at this;exact ez this);clear G hx a7;have Z:=bv.fr bd;have co:=aG n (by omega);have bn:=ad (HN.out n (by omega));have bt:Hid (ce l=(q++x::ao n)++dG ((l.map (·.level)).drop (k+n))):=(by show _=_;rw [HE.out];simp);generalize ao n=nb at *;go_wp2_with (at_builtin;refine aM eB rfl (.tmp 75) (.tmp 81) 29 rfl Tryz.underlying29 w.heap.size rfl Z [x] _ _ _ rfl rfl rfl (by simp;omega) A.size ?_);intro v4 w4 J;have D:=J.own;have K:=J.below Z A (ag _) A.size;go_wp2_with fail;refine(bn.out _).mono ?_;rintro e w5 ⟨v5,rfl,bu,aa⟩;have D:=D.fr aa;have I:=Fr.below K (Fr.size K) aa;go_wp2_with (at_builtin;refine aN eB rfl (.tmp 83) (.tmp 86) 29 rfl Tryz.underlying29 w.heap.size rfl D _ _ rfl bu.see (by simp;omega) (Fr.size I) ?_);intro v6 w6 ab;go_wp2_with fail;exact⟨⟨k+1,k+n,q++x::nb,by omega,by omega,by go_num,by simp;omega,by omega,bc.out,ab.own,bt.out,ab.below D I (ag _) (Fr.size I)⟩,by simp [intOf];omega⟩
     · obtain rfl:k=l.length:=(by omega);obtain rfl:e=l.length:=(by omega);have da:¬((l.length:Int)<l.length):=(by omega);have HE:Hid (ce l=q):=(by show _=_;rw [HC.out,pU (by simp)];simp [dG]);go_wp2_with fail;go_ret;exact⟨_,rfl,by rw [HE.out];exact bv,a3⟩
end Go.Proofs.YtdamnfpigajmoaaGreatDoor
namespace Go.Fk
open Go.RowKit
section
variable {P:Program} {α:Type} {E:al P α} {w:World} {base:Nat}
end
end Go.Fk
namespace Go.Proofs.YtdamnfpigajmoaaGreatDoor
open Go.RowKit Go.Fk
end Go.Proofs.YtdamnfpigajmoaaGreatDoor
namespace Go.Proofs.YtdamnfpigajmoaaGreatDoor
open Go.RowKit Go.Fk
def eQ:al Tryz.prog Nat:=⟨35,1,8,0,.int .u64 0,fun n=>[.int .u64 (n:Int)],by kernel_rfl,by decide,by decide,by simp [Value.cells],fun _=>rfl,by intro x u d;simp at d;subst d;rfl⟩
theorem a8.cbox{w:World}{B base n d:Nat}{T:TypeId}{l:List UInt8}(h:a8 w T B base l n d):∃ e,w.heap[B]? = some (.cells e T (0,0)):=by obtain⟨⟨v,m,_⟩,_⟩:=h;exact⟨_,m⟩
theorem a8.lt{w:World}{B base n d:Nat}{T:TypeId}{l:List UInt8}(h:a8 w T B base l n d):B<w.heap.size:=by obtain⟨m,e⟩:=h.cbox;exact(aR.1 e).1
theorem a8.app{α:Type}{E:al Tryz.prog α}{w w':World}{B base n d b:Nat}{T:TypeId}{l:List UInt8}{v v':Value}{xs z:List α}(h:a8 w T B base l n d)(m:Ow w b E v xs)(o:cQ b E z w v v' w')(A:T≠E.e)(D:E.e≠(eB:al Tryz.prog UInt8).e):a8 w' T B base l n d:=by
 obtain⟨⟨x,q,y⟩,F⟩:=h;exact⟨⟨x,o.chg'.heap q (fun e=>m.ne_cells q A e),b9 y.own m o D,y.top⟩,F⟩
theorem Cs.int_top(s:Cs)(l:List UInt8)(d:Nat):(s.int l d).1<=d:=by
 show Cs.val _ _<=_;unfold Cs.val;split;· rename_i h;exact(oQ _ _ h.2).2.2
 · exact ap _
abbrev jj(B d n p:Nat)(e:Value):Obj:=.cells #[.pointer (some ⟨B,0,none⟩),N d,N n,N p,e] 327 (0,0)
theorem ID(F B base:Nat)(b:List UInt8)(w:World)(hG:w.heap[F]? = some (jj B 0 0 0 (.slice none 0 0)))(X:a8 w 176 B base b 0 0)(y:F≠B)(Y:b.length<=1000000)(hb:base<=w.heap.size) :
  Calls Tryz.prog 275 #[.pointer (some ⟨F,0,none⟩)] w fun e w'=>e=.returned (.tuple #[])/\w'.heap[F]? = some (jj B (ej b).1 (el b).1 (dP b).1 (.slice none 0 0))/\a8 w' 176 B base b (jl b).at_ (jl b).er/\ak (fun k=>k=B\/k=F) w w':=by
 have Z:Hid (Calls Tryz.prog 134 #[.pointer (some ⟨B,0,none⟩)] w fun e w'=>e=.returned (.int .u8 ((ej b).1:Int))/\a8 w' 176 B base b (ej b).2.at_ (ej b).2.er/\ak (fun b=>b=B) w w'):=vA B base ⟨0,0⟩ b w X Y hb;have aa:=ad (fun er s W (h:a8 W 176 B base b s.at_ s.er)=>vy er B base s b W h);have ab:Hid (∀ W,a8 W 176 B base b (lP b).at_ (lP b).er->Calls Tryz.prog 133 #[.pointer (some ⟨B,0,none⟩),N 32768] W fun e w'=>e=.returned (N (el b).1)/\a8 w' 176 B base b (el b).2.at_ (el b).2.er/\ak (fun b=>b=B) W w'):=fun W h=>vx 32768 (by decide) B base (lP b) b W h Y;have ac:Hid (∀ W,a8 W 176 B base b (el b).2.at_ (el b).2.er->Calls Tryz.prog 133 #[.pointer (some ⟨B,0,none⟩),N 32768] W fun e w'=>e=.returned (N (dP b).1)/\a8 w' 176 B base b (dP b).2.at_ (dP b).2.er/\ak (fun b=>b=B) W w'):=fun W h=>vx 32768 (by decide) B base (el b).2 b W h Y;have G:Hid (lP b=if 1<(ej b).1 then(ej b).2.fail 2 else(ej b).2):=rfl;have K:Hid (jl b=if 1032*(dP b).1+64<(el b).1 then(dP b).2.fail 6 else(dP b).2):=rfl;have hx:(ej b).1<256:=kH _;have hn:(el b).1<=32768:=Cs.int_top _ _ _;have hp:(dP b).1<=32768:=Cs.int_top _ _ _;have cA:=X.lt;have cF:=ae hG 0 rfl;clear X;generalize jl b=sD at *;generalize lP b=sC at *;generalize ej b=RW at *;generalize el b=RN at *;generalize dP b=RP at *;obtain⟨d,sW⟩:=RW;obtain⟨o,sN⟩:=RN;obtain⟨m,sP⟩:=RP;simp only at Z ab ac G K hx hn hp;go_enter Tryz.func275, Tryz.ntmps275;go_wp2_with fail;refine(Z.out).mono ?_;rintro e T ⟨rfl,bd,aj⟩;have L:=aj.heap hG y;have z1:=az L 1;have d1:=ae L 1 rfl;have dd:IntKind.i64.wrap (d:Int)=(d:Int):=ar _ (by omega);have U:=aB L 1 (.int .i64 (d:Int));have M:=bd.box L (by decide) (eT y) (aw T ⟨F,1,none⟩ (.int .i64 (d:Int)));have av:ak (fun k=>k=B\/k=F) w (T.setCell ⟨F,1,none⟩ (.int .i64 (d:Int))):=(aj.mono (G':=fun k=>k=B\/k=F) (fun k hk h=>.inl h)).trans (aw T ⟨F,1,none⟩ _) (fun _ _ h=>.inr h);clear bd aj Z;go_upto_if 15 with fail;generalize cj:T.setCell ⟨F,1,none⟩ (.int .i64 (d:Int))=W2 at *;clear cj L z1 d1;have dj:=M.lt;go_cut []from 15 to 21 (fun wx=>wx.heap[F]? = some (jj B d 0 0 (.slice none 0 0))/\a8 wx 176 B base b sC.at_ sC.er/\ak (fun k=>k=B\/k=F) w wx)
 case first=>
  by_cases q:1<d;· have a1:=ad (G.out.trans (ai q));have O:=ad (aa.out 2 sW W2 M);have j1:(1:Int)<d:=(by omega);have c2:=ae U 0 rfl;clear G q M;go_wp2_with fail;refine(O.out).mono ?_;rintro e w3 ⟨rfl,V,bf⟩;have Q:=bf.heap U y;clear O;go_wp2_with fail;go_meet;rw [a1.out];exact⟨Q,V,av.trans bf fun _ _ h=>.inl h⟩
  · have a1:=ad (G.out.trans (ah q));have j1:¬(1:Int)<d:=(by omega);clear G q;go_wp2_with fail;go_meet;rw [a1.out];exact⟨U,M,av⟩
 case rest=>
  obtain⟨Q,V,bk⟩:=hcut;clear U M av G;have cm:=ad aa.out;clear aa;have c3:=ae Q 0 rfl;have bm:=ad (ab.out wc V);clear ab V;go_wp2_with fail;refine(bm.out).mono ?_;rintro e w4 ⟨rfl,bn,a4⟩;have I:=a4.heap Q y;have z4:=az I 2;have d4:=ae I 2 rfl;have cp:=ae I 0 rfl;have A:=aw w4 ⟨F,2,none⟩ (N o);have a5:(w4.setCell ⟨F,2,none⟩ (N o)).heap[F]? = some (jj B d o 0 (.slice none 0 0)):=aB I 2 (N o);have bt:=bn.box I (by decide) (eT y) A;have bu:=(bk.trans a4 (fun _ _ h=>.inl h)).trans A (fun _ _ h=>.inr h);clear bm c3 bn a4 Q bk A;go_upto_region 9 with fail;generalize cs:w4.setCell ⟨F,2,none⟩ (N o)=W5 at *;clear cs z4 d4 cp I;have c5:=ae a5 0 rfl;have bv:=ad (ac.out W5 bt);clear ac bt;go_wp2_with fail;refine(bv.out).mono ?_;rintro e w6 ⟨rfl,bx,a7⟩;have J:=a7.heap a5 y;have z6:=az J 3;have d6:=ae J 3 rfl;have cz:=ae J 0 rfl;have A:=aw w6 ⟨F,3,none⟩ (N m);have R:(w6.setCell ⟨F,3,none⟩ (N m)).heap[F]? = some (jj B d o m (.slice none 0 0)):=aB J 3 (N m);have bz:=bx.box J (by decide) (eT y) A;have b0:=(bu.trans a7 (fun _ _ h=>.inl h)).trans A (fun _ _ h=>.inr h);clear bv c5 bx a7 a5 bu A;go_upto_region 11 with fail;generalize c1:w6.setCell ⟨F,3,none⟩ (N m)=D at *;clear c1 z6 d6 cz J;have c0:=ae R 0 rfl;have c2:=ae R 2 rfl;have c3:=ae R 3 rfl;have i1:IntKind.i64.wrap (1032*(m:Int))=1032*(m:Int):=ar _ (by omega);have i2:IntKind.i64.wrap (1032*(m:Int)+64)=1032*(m:Int)+64:=ar _ (by omega);by_cases q:1032*m+64<o;· have ba:=ad (K.out.trans (ai q));have j1:1032*(m:Int)+64<(o:Int):=(by omega);have O:=ad (fun W (h:Fr D W)=>cm.out 6 sP W (bz.fr h));clear K q;go_quiet (fail);have z:Fr D (D.drewN nq):=(Fr.refl D).drewN nq;have e0:=z.cell c0;have c4:=ad (O.out _ z);have c6:=z.heap R;have c7:=b0.trans (z.chg (fun k=>k=B)) (fun _ _ h=>.inl h);clear c0 c2 c3 O;go_wp2_with fail;refine(c4.out).mono ?_;rintro e w9 ⟨rfl,c8,b2⟩;have c9:=b2.heap c6 y;go_wp2_with fail;go_end0;rw [ba.out];exact⟨rfl,c9,c8,c7.trans b2 fun _ _ h=>.inl h⟩
  · have ba:=ad (K.out.trans (ah q));have j1:¬1032*(m:Int)+64<(o:Int):=(by omega);clear K q;go_quiet (fail);have z:Fr D (D.drewN nq):=(Fr.refl D).drewN nq;go_wp2_with fail;go_end0;rw [ba.out];exact⟨rfl,z.heap R,bz.fr z,b0.trans (z.chg (fun k=>k=B)) (fun _ _ h=>.inl h)⟩
theorem Av(b:List UInt8):(fV b).2.at_<=b.length:=by
 have d:(ej b).2.at_<=b.length:=Cs.take_le _ _ _ (ap _);have h:(lP b).at_<=b.length:=by
  unfold lP;split
  · unfold Cs.fail;split;· exact d
    · exact d
  · exact d
 have m:(el b).2.at_<=b.length:=Cs.int_le _ _ _ h;have e:(dP b).2.at_<=b.length:=Cs.int_le _ _ _ m;have o:(jl b).at_<=b.length:=by
  unfold jl;split
  · unfold Cs.fail;split;· exact e
    · exact e
  · exact e
 exact Cs.take_le _ _ _ (Cs.take_le _ _ _ o)
theorem IC (F B base : Nat) (v : Value) (b : List UInt8) (m w : World) (X : af m eB v b) (bc : Fr m w) (cF : m.heap.size ≤ B) (cG : m.heap.size ≤ F) (I : w.heap[F]? = some (jj B (ej b).1 (el b).1 (dP b).1 (.slice none 0 0))) (Y : a8 w 176 B base b (jl b).at_ (jl b).er) (J : F ≠ B) (hl : b.length ≤ 1000000) (hb : base ≤ w.heap.size) (ht : bU m) :
    Calls Tryz.prog 276 #[.pointer (some ⟨F,0,none⟩),v] w fun e w'=>∃ u,e=.returned (.tuple #[])/\w'.heap[F]? = some (jj B (ej b).1 (el b).1 (dP b).1 u)/\Ow w' w.heap.size eB u (go b).1/\a8 w' 176 B base b (fV b).2.at_ (iM b)/\ak (fun k=>k=B\/k=F) w w':=by
  have Z:=ad (fun k s W (h:a8 W 176 B base b s.at_ s.er) o=>uY B base k s b W h hl o);have ch:=ad (fun n q W (h:a8 W 176 B base b n q)=>mG B base n q b W h);have cj:=ad (fun n q W (h:a8 W 176 B base b n q)=>vB B base n q b W h);have bf:=ad (fun q s W (h:a8 W 176 B base b s.at_ s.er)=>vy q B base s b W h);have bk:Hid (∀ W,a8 W 176 B base b (jl b).at_ (jl b).er->base<=W.heap.size->Calls Tryz.prog 196 #[.pointer (some ⟨B,0,none⟩),N (dP b).1] W fun e w'=>∃ u,e=.returned u/\Ow w' W.heap.size eB u (go b).1/\a8 w' 176 B base b (go b).2.at_ (go b).2.er/\ak (fun b=>b=B) W w'):=fun W h o=>Z.out _ _ W h o;have bm:Hid (∀ W,a8 W 176 B base b (go b).2.at_ (go b).2.er->base<=W.heap.size->Calls Tryz.prog 196 #[.pointer (some ⟨B,0,none⟩),N 4] W fun e w'=>∃ u,e=.returned u/\Ow w' W.heap.size eB u (fV b).1/\a8 w' 176 B base b (fV b).2.at_ (fV b).2.er/\ak (fun b=>b=B) W w'):=fun W h o=>Z.out _ _ W h o;have cl:=Av b;have hE:iM b=if(fV b).2.er=0 then fw (b.take (fV b).2.at_)else(fV b).2.er:=rfl;have bt:=ad (fun W (h:Fr m W) v' (o:af W eB v' (b.take (fV b).2.at_))=>vz v' _ W o (by rw [aV];omega) (ht.fr h));have HS:=ad X;have da:=Y.lt;obtain⟨a0,dd,rfl,di,cn,_⟩:=X.shape;unfold maxLen at cn;have c0:=ae I 0 rfl;have c3:=ae I 3 rfl;have bv:=ad (bk.out w.drew (Y.fr (Fr.refl w).drew) hb);have K:=ad hE;clear X Y Z bk hE;generalize iM b=E at *;generalize (ej b).1=xw at *;generalize (el b).1=xn at *;generalize (dP b).1=xp at *;generalize (go b).1=U at *;generalize (go b).2=sB at *;generalize (fV b).1=U4 at *;generalize (fV b).2=d at *;go_enter Tryz.func276, Tryz.ntmps276;go_upto_region 0 with fail;go_cut []from 6 to 17 (fun L=>∃ u,L.heap[F]? = some (jj B xw xn xp u)/\Ow L w.heap.size eB u U/\a8 L 176 B base b sB.at_ sB.er/\ak (fun k=>k=B\/k=F) w L)
  case first=>
    go_region_with (go_at_call 196; refine bv.out.mono ?_; rintro e w2 ⟨u, rfl, hU, cx, bz⟩
                    obtain ⟨M, O, rfl⟩ := hU.shape'
                    have z := bz.heap (show w.drew.heap[F]? = _ from I) J
                    have d2 := ae z 4 rfl
                    have z2 := az z 4)
    all_goals go_wp2_with fail
    all_goals go_meet
    all_goals exact⟨_,aB z 4 (.slice M U.length O),hU.chg (aw w2 ⟨F,4,none⟩ (.slice M U.length O)) (fun k hk e=>hU.ne_cells z (by decide) (by rw [hk,show k=F from e])),cx.box z (by decide) (eT J) (aw w2 ⟨F,4,none⟩ (.slice M U.length O)),(((Fr.refl w).drew.chg (fun k=>k=B\/k=F)).trans bz (fun _ _ h=>.inl h)).trans (aw w2 ⟨F,4,none⟩ (.slice M U.length O)) (fun _ _ h=>.inr h)⟩
  case rest=>
    obtain⟨u,ac,aj,av,a1⟩:=hcut;have b0:base<=wc.heap.size:=aq hb a1.size;have c3:=ae ac 0 rfl;have b1:=ad (bm.out wc av b0);have Q:=av.cbox;clear bv bm c0 I av b0;go_wp2_with fail;refine(b1.out).mono ?_;rintro e w4 ⟨u4,rfl,_,D,R⟩;have T:=R.heap ac J;have a2 := aj.chg R (fun i hi e => by
      obtain ⟨cs, h5⟩ := Q
      exact aj.ne_cells h5 (by decide) (by rw [hi, show i = B from e]))
    have a5:=a1.trans R (fun _ _ h=>.inl h);have c4:=ae T 0 rfl;have V:=ad (ch.out _ _ w4 D);clear b1 c3 ac aj a1 R Q;by_cases G:d.er=0
    · have a6:((d.er:Nat):Int)=0:=(by omega);have a7:=ad (K.out.trans (ai G));have b3:=ad (cj.out _ _ w4 D);have b4:Fr m w4:=ak.below bc a5 bc.size (fun i e=>by rcases e with e | e <;> omega);obtain⟨dr,b5⟩:=j9 eB 29 Tryz.underlying29 (HS.out.fr b4) d.at_ cl;have ba:=ad (bt.out w4 b4 _ b5);have b8:=ad (fun W (h:a8 W 176 B base b d.at_ d.er)=>bf.out E d W h);have bA:Hid ((d.fail E).at_=d.at_/\(d.fail E).er=E):=(by show _/\_;unfold Cs.fail;rw [ai G];exact⟨rfl,rfl⟩);rw [a6]at V;rw [<- a7.out]at ba;clear K G a6 bt bf b5;generalize fw (b.take d.at_)=ec at *;go_wp2_with fail;refine(V.out).mono ?_;rintro e w5 ⟨rfl,rfl⟩;clear V;go_wp2_with fail;refine(b3.out).mono ?_;rintro e w5 ⟨rfl,rfl⟩;clear b3;go_wp2_with fail;refine(ba.out).mono ?_;rintro e w6 ⟨u6,rfl,bR,y⟩;obtain⟨p6,z6,rfl⟩:=bR.shape';have c5:=y.heap T;have c6:=y.cell c4;have c7:=ad (b8.out w6 (D.fr y));have ca:=a2.fr y;have c8:=a5.trans (y.chg (fun k=>k=B)) (fun _ _ h=>.inl h);have Q:=D.cbox;clear ba b8 bR a2 T c4;go_wp2_with fail;refine(c7.out).mono ?_;rintro e w7 ⟨rfl,cb,bb⟩;rw [bA.out.1,bA.out.2]at cb;have c9:=bb.heap c5 J;have cA := ca.chg bb (fun i hi e => by
        obtain ⟨cs, h5⟩ := Q
        exact ca.ne_cells (y.heap h5) (by decide) (by rw [hi, show i = B from e]))
      go_wp2_with fail;go_end0;exact⟨u,rfl,c9,cA,cb,c8.trans bb (fun _ _ h=>.inl h)⟩
    · have a6:¬((d.er:Nat):Int)=0:=(by omega);have a7:=ad (K.out.trans (ah G));clear K G;go_wp2_with fail;refine(V.out).mono ?_;rintro e w5 ⟨rfl,rfl⟩;go_wp2_with fail;(try simp only [Exit.inBlock,Exit.then]);refine b6Qb (v:=.tuple #[]) (by simp [results,Tryz.results276,go_sem]) rfl ?_;rw [a7.out];exact⟨u,rfl,T,a2,D,a5⟩
theorem IE(F B base:Nat)(u:Value)(b:List UInt8)(w:World)(z:(ej b).1=0)(d:w.heap[F]? = some (jj B (ej b).1 (el b).1 (dP b).1 u))(A:Ow w base eB u (go b).1) :
  Calls Tryz.prog 277 #[.pointer (some ⟨F,0,none⟩)] w fun e w'=>∃ x,e=.returned (.tuple #[x,.int .i64 ((fh b).2:Int)])/\af w' eB x (fh b).1/\Fr w w':=by
 have y:Hid (fh b=if(el b).1=(dP b).1 then((go b).1,0)else([],2)):=by show _=_;unfold fh;rw [ai z]
 rw [z]at d;have I:=ad A.see;obtain⟨M,O,rfl⟩:=A.shape';clear z A;generalize fh b=R at *;generalize (el b).1=o at *;generalize (dP b).1=q at *;generalize (go b).1=U at *;have Q:=ae d 1 rfl;have c2:=ae d 2 rfl;have T:=ae d 3 rfl;have J:=ae d 4 rfl;have K:=ad (fun m=>((Fr.refl w).drewN m).cell J);by_cases h:o=q;· have D:=ad (y.out.trans (ai h));have G:(o:Int)=(q:Int):=(by omega);have L:((o:Int) != (q:Int))=false:=(by simp [G]);clear y d;go_enter Tryz.func277, Tryz.ntmps277;go_wp2_with fail;go_quiet (fail);have V:=K.out nq;go_wp2_with fail;go_ret2;rw [D.out];exact⟨_,rfl,I.out.fr ((Fr.refl w).drewN nq),(Fr.refl w).drewN nq⟩
 · have D:=ad (y.out.trans (ah h));have G:¬(o:Int)=(q:Int):=(by omega);have L:((o:Int) != (q:Int))=true:=(by simpa using G);clear y d;go_enter Tryz.func277, Tryz.ntmps277;go_wp2_with fail;go_quiet (fail);go_wp2_with fail;go_ret2;rw [D.out];exact⟨_,rfl,af.nil,(Fr.refl w).drewN _⟩
theorem I3(v:Value)(b:List UInt8)(w:World)(q:af w eB v b)(A:b.length<=1000000)(Z:bU w)
  (HBy:Hid (∀ F B base u W,W.heap[F]? = some (jj B (ej b).1 (el b).1 (dP b).1 u)->Ow W base eB u (go b).1->base<=W.heap.size->iM b=0->Calls Tryz.prog 277 #[.pointer (some ⟨F,0,none⟩)] W fun e w'=>∃ x,e=.returned (.tuple #[x,.int .i64 ((fh b).2:Int)])/\af w' eB x (fh b).1/\Fr W w')) :
  Calls Tryz.prog 242 #[v] w fun e w'=>Fr w w'/\((iM b≠0/\e=.returned (.tuple #[.pointer none,.slice none 0 0,.int .i64 (iM b:Int)]))\/(iM b=0/\∃ F B x u,e=.returned (.tuple #[.pointer (some ⟨F,0,none⟩),x,.int .i64 ((fh b).2:Int)])/\af w' eB x (fh b).1/\w'.heap[F]? = some (jj B (ej b).1 (el b).1 (dP b).1 u)/\a8 w' 176 B w.heap.size b (fV b).2.at_ 0)):=by
 have aa:=ad (vt v b w q A);have ab:=ad (fun F B W D G I J=>ID F B w.heap.size b W D G I A J);have ac:=ad (fun F B W D G I J h5 h6 h7=>IC F B w.heap.size v b w W q D G I J h5 h6 A h7 Z);have aj:=ad (fun B n er W (h:a8 W 176 B w.heap.size b n er)=>mG B w.heap.size n er b W h);obtain⟨a0,bz,rfl,_⟩:=q.shape;clear q Z;generalize iM b=E at *;generalize fh b=O at *;generalize (fV b).2.at_=b0 at *;generalize (ej b).1=xw at *;generalize (el b).1=xn at *;generalize (dP b).1=xp at *;generalize jl b=sD at *;go_enter Tryz.func242, Tryz.ntmps242;go_wp2_with fail;refine(aa.out).mono ?_;rintro e d ⟨B,rfl,K,L,hB⟩;have b5:=K.lt;have M:Fr d (d.alloc (.cells #[.pointer (some ⟨B,0,none⟩),.int .i64 0,.int .i64 0,.int .i64 0,.slice none 0 0] 327)):=(Fr.refl d).alloc _;have a1:(d.alloc (.cells #[.pointer (some ⟨B,0,none⟩),.int .i64 0,.int .i64 0,.int .i64 0,.slice none 0 0] 327)).heap[d.heap.size]? = some (jj B 0 0 0 (.slice none 0 0)):=au _ _ _ rfl;have a2:=K.fr M;have y:=L.trans M;have hF:w.heap.size<=d.heap.size:=L.size;have a3:=ad (ab.out d.heap.size B _ a1 a2 (by omega) y.size);clear aa ab K a1 a2 M L;go_wp2_with fail;refine(a3.out).mono ?_;rintro e Q ⟨rfl,a4,a5,a6⟩;have bn:d.heap.size≠B:=by omega
 generalize d.heap.size=F at *;have o:Fr w Q:=ak.below y a6 y.size (fun i e=>by rcases e with e | e <;> omega);have a7:=ad (ac.out F B Q o hB hF a4 a5 bn o.size);clear a3 ac a4 a5 a6 y;go_wp2_with fail;refine(a7.out).mono ?_;rintro e w4 ⟨u,rfl,R,ba,T,U⟩;have bb:Fr w w4:=ak.below o U o.size (fun i e=>by rcases e with e | e <;> omega);have c4:=ae R 0 rfl;have z:=ad (aj.out _ _ _ w4 T);have bt:Q.heap.size<=w4.heap.size:=U.size;clear a7 aj o U;by_cases m:E=0;· have V:((E:Nat):Int)=0:=(by omega);have bu:=ad (HBy.out F B _ u w4 R ba bt m);rw [V]at z;rw [m]at T;have X:=ad m;clear HBy m V ba;go_wp2_with fail;refine(z.out).mono ?_;rintro e w5 ⟨rfl,rfl⟩;clear z;go_wp2_with fail;refine(bu.out).mono ?_;rintro e w6 ⟨x,rfl,hx,Y⟩;obtain⟨px,zx,rfl,_⟩:=hx.shape;go_wp2_with fail;go_ret3;exact⟨bb.trans Y,.inr ⟨X.out,F,B,_,u,rfl,hx,Y.heap R,T.fr Y⟩⟩
 · have V:¬((E:Nat):Int)=0:=(by omega);have X:=ad m;clear HBy m;go_wp2_with fail;refine(z.out).mono ?_;rintro e w5 ⟨rfl,rfl⟩;go_wp2_with fail;go_ret3;exact⟨bb,.inl ⟨X.out,rfl⟩⟩
theorem Ly(v:Value)(b:List UInt8)(w:World)(D:af w eB v b)(Y:b.length<=1000000)(L:bU w)(M:(fh b).1.length<=1000000)
  (HBy:Hid (∀ F B base u W,W.heap[F]? = some (jj B (ej b).1 (el b).1 (dP b).1 u)->Ow W base eB u (go b).1->base<=W.heap.size->iM b=0->Calls Tryz.prog 277 #[.pointer (some ⟨F,0,none⟩)] W fun e w'=>∃ x,e=.returned (.tuple #[x,.int .i64 ((fh b).2:Int)])/\af w' eB x (fh b).1/\Fr W w')) :
  Calls Tryz.prog 197 #[v] w fun e w'=>∃ u,e=.returned (.tuple #[u,N (bX b).2.1,.int .i64 ((bX b).2.2:Int)])/\Ow w' w.heap.size eB u (bX b).1/\Fr w w':=by
 have q:=ad (I3 v b w D Y L HBy.out);have m:Hid (bX b=if iM b=0 then(if(fh b).2=0 then((fh b).1,(fV b).2.at_,0)else([],0,(fh b).2))else([],0,iM b)):=rfl;have Q:=ad (fun B n T W (h:a8 W 176 B w.heap.size b n T)=>vB B w.heap.size n T b W h);have G:=ad (fun x W (h:af W eB x (fh b).1)=>mH x _ W h M);obtain⟨a0,a1,rfl,_⟩:=D.shape;clear D L M HBy;generalize bX b=R at *;generalize iM b=E at *;generalize fh b=O at *;obtain⟨ol,I⟩:=O;generalize (fV b).2.at_=a3 at *;simp only at q m G;go_enter Tryz.func197, Tryz.ntmps197;go_wp2_with fail;refine(q.out).mono ?_;rintro e y ⟨z,⟨d,rfl⟩ | ⟨d,F,B,x,u,rfl,U,V,Z⟩⟩;· have o:=ad (m.out.trans (ah d));have j1:¬((E:Nat):Int)=0:=(by omega);clear m d q;go_wp2_with fail;go_ret3;rw [o.out];exact⟨_,rfl,Ow.nil,z⟩
 · have A:=ad (m.out.trans (ai d));obtain⟨px,zx,rfl,_⟩:=U.shape;clear m q;by_cases h:I=0
   · have o:=ad (A.out.trans (ai h));have J:((I:Nat):Int)=0:=(by omega);rw [J];have c1:=ae V 0 rfl;have ab:=ad (G.out _ y.drew U.drew);have ac:=ad (fun W (h:Fr y W)=>Q.out B _ _ W (Z.fr h));clear A h J d G Q V;go_wp2_with fail
     go_region_held3 (fun W => W.cell? ⟨F, 0, none⟩ = some (.pointer (some ⟨B, 0, none⟩)))
      (first | go_keep)
      ((first
       | (go_at_call 58; refine ab.out.mono ?_; rintro e w2 ⟨u2, rfl, X, K⟩; obtain ⟨p2, z2, aj⟩ := X.shape'; subst aj; have c2 := K.cell c1)
       | (go_at_call 198; refine (ac.out _ ((Fr.refl y).drew.trans K)).mono ?_; rintro e w3 ⟨rfl, rfl⟩)))
     go_wp2_with fail;go_ret3;rw [o.out];exact⟨_,rfl,X.rebase z.size,z.trans ((Fr.refl y).drew.trans K)⟩
   · have o:=ad (A.out.trans (ah h));have J:¬((I:Nat):Int)=0:=(by omega);clear A h d;go_wp2_with fail;go_ret3;rw [o.out];exact⟨_,rfl,Ow.nil,z⟩
theorem I6(b:List UInt8):(go b).1.length<=b.length:=by
 show((jl b).take b (dP b).1).1.length<=_;unfold Cs.take;split
 · split;· exact ap _
   · rw [aV,bN];omega
 · exact ap _
theorem Lx(v:Value)(b:List UInt8)(w:World)(h:af w eB v b)(m:b.length<=1000000)(o:bU w)(d:(ej b).1=0) :
  Calls Tryz.prog 197 #[v] w fun e w'=>∃ u,e=.returned (.tuple #[u,N (bX b).2.1,.int .i64 ((bX b).2.2:Int)])/\Ow w' w.heap.size eB u (bX b).1/\Fr w w':=
 Ly v b w h m o (by
  unfold fh
  rw [ai d]
  have := I6 b
  split
  · show (go b).1.length ≤ _; omega
  · exact ap _) (fun F B base u W q y _ _ => IE F B base u b W d q y)
def i8(d:Bool)(b:List UInt8)(s:Cs):Nat × Cs:=if d=true then s.num b else(0,s)
def ii(d:Bool)(b:List UInt8)(s:Cs):Nat × Cs:=if d=true then(i8 d b s).2.byte b else(0,(i8 d b s).2)
def i9(d:Bool)(b:List UInt8)(s:Cs):List UInt8 × Cs:=(ii d b s).2.text b 4000
def eq(d:Bool)(b:List UInt8)(s:Cs):List UInt8 × Cs:=(i9 d b s).2.text b 4000
def fQ(d:Bool)(b:List UInt8)(s:Cs):am:=⟨UInt64.ofNat (i8 d b s).1,UInt8.ofNat (ii d b s).1,(i9 d b s).1,(eq d b s).1⟩
def jB(d:Bool)(b:List UInt8):Nat->Cs->List am->List am × Nat
 | 0,s,e=>(e,s.er)
 | f+1,s,e=>
  if b.length<=s.at_ then(e,0)
  else if(eq d b s).2.er=0 then jB d b f (eq d b s).2 (e++[fQ d b s])
  else([],(eq d b s).2.er)
def ig(d:Bool)(b:List UInt8):List am × Nat:=jB d b b.length ⟨0,0⟩ []
theorem Ej(e:Bool)(b:List UInt8)(f:Nat)(s:Cs)(d:List am)(h:b.length<=s.at_)(m:s.er=0):jB e b f s d=(d,0):=by
 cases f with
 | zero=>rw [jB,m]
 | succ f=>rw [jB,ai h]
theorem Ei(d:Bool)(b:List UInt8)(f:Nat)(s:Cs)(e:List am)(h:s.at_<b.length)(m:(eq d b s).2.er=0):jB d b (f+1) s e=jB d b f (eq d b s).2 (e++[fQ d b s]):=by
 rw [jB,ah (by omega),ai m]
theorem Ek(d:Bool)(b:List UInt8)(f:Nat)(s:Cs)(e:List am)(h:s.at_<b.length)(m:¬(eq d b s).2.er=0):jB d b (f+1) s e=([],(eq d b s).2.er):=by
 rw [jB,ah (by omega),ah m]
theorem Cs.step_er(s:Cs)(r:Nat × Nat × Nat)(h:(s.step r).er=0):s.er=0/\r.2.2=0/\(s.step r).at_=s.at_+r.2.1:=by
 unfold Cs.step at *;by_cases d:s.er=0
 · rw [ai d]at h ⊢;by_cases e:r.2.2=0;· rw [ai e];exact⟨d,e,rfl⟩
   · rw [ah e]at h;exact absurd h e
 · rw [ah d]at h;exact absurd h d
theorem Cs.text_up(s:Cs)(l:List UInt8)(d:Nat)(h:(s.text l d).2.er=0):s.er=0/\s.at_<(s.text l d).2.at_/\(s.text l d).1.length<=d:=by
 obtain⟨e,m,o⟩:=Cs.step_er s _ h;have q:=sI d (l.drop s.at_) m;refine⟨e,?_,?_⟩;· show s.at_<(s.step _).at_;rw [o];show s.at_<s.at_+(fo d (l.drop s.at_)).2.1;omega
 · show(if s.er=0 then _ else _:List UInt8).length<=d;rw [ai e];exact q.2.2
theorem Cs.num_up(s:Cs)(l:List UInt8)(h:(s.num l).2.er=0):s.er=0/\s.at_<=(s.num l).2.at_:=by
 obtain⟨d,m,e⟩:=Cs.step_er s _ h;exact⟨d,by show s.at_<=(s.step _).at_;rw [e];exact Nat.le_add_right _ _⟩
theorem Cs.byte_up(s:Cs)(l:List UInt8)(h:(s.byte l).2.er=0):s.er=0/\s.at_<=(s.byte l).2.at_:=by
 have e:(s.take l 1).2.er=0:=h;show s.er=0/\s.at_<=(s.take l 1).2.at_;unfold Cs.take at *;by_cases d:s.er=0
 · rw [ai d]at e ⊢;refine⟨d,?_⟩;split;· exact ag _
   · exact Nat.le_add_right _ _
 · rw [ah d]at e;exact absurd e d
theorem En(d:Bool)(b:List UInt8)(s:Cs)(h:(eq d b s).2.er=0):s.er=0/\s.at_<(eq d b s).2.at_/\(i9 d b s).1.length<=4000/\(eq d b s).1.length<=4000:=by
 obtain⟨m,o,q⟩:=Cs.text_up _ _ _ h;obtain⟨e,y,z⟩:=Cs.text_up _ _ _ m;have I:(i9 d b s).2.at_<(eq d b s).2.at_:=o;have J:(ii d b s).2.at_<(i9 d b s).2.at_:=y;have key:s.er=0/\s.at_<=(ii d b s).2.at_:=by
  cases d;· exact⟨e,ag _⟩
  · obtain⟨A,D⟩:=Cs.byte_up _ _ e;obtain⟨F,G⟩:=Cs.num_up _ _ A;exact⟨F,aq G D⟩
 exact⟨key.1,by omega,z,q⟩
theorem Eo(d:Bool)(b:List UInt8)(s:Cs)(h:s.at_<=b.length):(eq d b s).2.at_<=b.length:=by
 refine Cs.text_le _ _ _ (Cs.text_le _ _ _ ?_);cases d;· exact h
 · exact Cs.take_le _ _ _ (Cs.num_le _ _ h)
def bE(b:List UInt8):List UInt8 × Nat:=
 if (bS b).2 = 0 then
  (if(bS b).1=1 then(if fw b=0 then(if(eN b).length<5 then([],1)else((eN b).drop 5,0))else([],fw b))else([],4))
 else([],(bS b).2)
def dX(x:List UInt8):Nat × Cs:=(⟨0,0⟩:Cs).int x 32768
def gk(x:List UInt8):Nat × Cs:=(dX x).2.byte x
def n7(x:List UInt8):Cs:=if 1<(gk x).1 then(gk x).2.fail 2 else(gk x).2
def fD(x:List UInt8):Nat × Cs:=(n7 x).int x 20000
def bZ(x:List UInt8):Nat × Cs:=(fD x).2.int x (fD x).1
def jd(x:List UInt8):Nat:=if(bZ x).2.er=0 then(if 16<=(dX x).1/\(dX x).1<=32768 then 0 else 9)else(bZ x).2.er
def aS(x:List UInt8):Nat->Cs
 | 0=>(bZ x).2
 | i+1=>((aS x i).take x (bX (x.drop (aS x i).at_)).2.1).2
def fq(x:List UInt8)(i:Nat):List am × Nat:=
 if (bX (x.drop (aS x i).at_)).2.2 = 0 then
  (if (ig true (bX (x.drop (aS x i).at_)).1).2 = 0 then (if (ig true (bX (x.drop (aS x i).at_)).1).1 = [] then ([], 2) else ig true (bX (x.drop (aS x i).at_)).1)
   else ([], (ig true (bX (x.drop (aS x i).at_)).1).2))
 else([],(bX (x.drop (aS x i).at_)).2.2)
def jU(x:List UInt8):Nat->Nat->List am->List am × Nat
 | 0,_,d=>(d,0)
 | k+1,i,d=>if(fq x i).2=0 then jU x k (i+1) (d++(fq x i).1)else([],(fq x i).2)
def jD(x:List UInt8):List am × Nat:=jU x (bZ x).1 0 []
def kR(x:List UInt8):List am × Nat:=
 if (jD x).2 = 0 then
  (if 0<x.length - (aS x (bZ x).1).at_\/(jD x).1.length≠(fD x).1 then([],2)else if cV (jD x).1=true then((jD x).1,0)else([],6))
 else([],(jD x).2)
def nz(b:List UInt8):Nat:=if(bE b).2=0 then(if jd (bE b).1=0 then(kR (bE b).1).2 else jd (bE b).1)else(bE b).2
theorem EM(v:Value)(b:List UInt8)(w:World)(J:af w eB v b)(hl:b.length<=1000000)(X:bU w) :
  Calls Tryz.prog 87 #[v] w fun e w'=>∃ u,e=.returned (.tuple #[u,.int .i64 ((bE b).2:Int)])/\af w' eB u (bE b).1/\Fr w w':=by
 have F:=ad (vo v b w J);have M:=ad (fun W (h:Fr w W)=>vz v b W (J.fr h) hl (X.fr h));have o:Hid (bE b=if(bS b).2=0 then(if(bS b).1=1 then(if fw b=0 then(if(eN b).length<5 then([],1)else((eN b).drop 5,0))else([],fw b))else([],4))else([],(bS b).2)):=rfl;obtain⟨a0,a4,rfl,_⟩:=J.shape;clear J X;generalize bE b=R at *;generalize bS b=mv at *;obtain⟨Y,O⟩:=mv;generalize fw b=Q at *;generalize eN b=q at *;simp only at F o;by_cases T:O=0
 · subst T;by_cases U:Y=1
   · subst U;by_cases V:Q=0
     · subst V;by_cases K:q.length<5;· have y:Hid (R=([],1)):=(by show _=_;rw [o.out,ai rfl,ai rfl,ai rfl,ai K]);have L:(q.length:Int)<5:=(by omega);clear o K;go_enter Tryz.func87, Tryz.ntmps87;go_wp2_with fail;refine(F.out).mono ?_;rintro e A ⟨rfl,d⟩;have G:=ad (M.out A d);go_wp2_with fail;refine(G.out).mono ?_;rintro e Z ⟨u,rfl,D,I⟩;obtain⟨p,z,rfl⟩:=D.shape';go_wp2_with fail;go_ret2;rw [y.out];exact⟨_,rfl,af.nil,d.trans I⟩
       · have y:Hid (R=(q.drop 5,0)):=(by show _=_;rw [o.out,ai rfl,ai rfl,ai rfl,ah K]);have L:¬(q.length:Int)<5:=(by omega);clear o;go_enter Tryz.func87, Tryz.ntmps87;go_wp2_with fail;refine(F.out).mono ?_;rintro e A ⟨rfl,d⟩;have G:=ad (M.out A d);go_wp2_with fail;refine(G.out).mono ?_;rintro e Z ⟨u,rfl,D,I⟩;obtain⟨p,z,rfl⟩:=D.shape';obtain⟨f1,f2,aa,ab⟩:=kp eB 29 Tryz.underlying29 D.see 5 (by omega);have a5:∀ W,(Instr.slice 29 (.slice p q.length z) (some (.int .i64 5)) none none).run Tryz.prog W=.ok (.slice f1 (q.length - 5) f2) W:=aa;have a2:=ad ab;clear aa ab D K;generalize q.length - 5=m at *;go_wp2_with fail;go_ret2;rw [y.out];exact⟨_,rfl,a2.out,d.trans I⟩
     · have y:Hid (R=([],Q)):=(by show _=_;rw [o.out,ai rfl,ai rfl,ah V]);have L:¬(Q:Int)=0:=(by omega);clear o V;go_enter Tryz.func87, Tryz.ntmps87;go_wp2_with fail;refine(F.out).mono ?_;rintro e A ⟨rfl,d⟩;have G:=ad (M.out A d);go_wp2_with fail;refine(G.out).mono ?_;rintro e Z ⟨u,rfl,D,I⟩;obtain⟨p,z,rfl⟩:=D.shape';go_wp2_with fail;go_ret2;rw [y.out];exact⟨_,rfl,af.nil,d.trans I⟩
   · have y:Hid (R=([],4)):=(by show _=_;rw [o.out,ai rfl,ah U]);have L:¬(Y:Int)=1:=(by omega);clear o U;go_enter Tryz.func87, Tryz.ntmps87;go_wp2_with fail;refine(F.out).mono ?_;rintro e A ⟨rfl,d⟩;go_wp2_with fail;go_ret2;rw [y.out];exact⟨_,rfl,af.nil,d⟩
 · have y:Hid (R=([],O)):=(by show _=_;rw [o.out,ah T]);have L:¬(O:Int)=0:=(by omega);clear o T;go_enter Tryz.func87, Tryz.ntmps87;go_wp2_with fail;refine(F.out).mono ?_;rintro e A ⟨rfl,d⟩;go_wp2_with fail;go_ret2;rw [y.out];exact⟨_,rfl,af.nil,d⟩
end Go.Proofs.YtdamnfpigajmoaaGreatDoor
