/- Parts of the proof of ArchPacks: Pf Pg Pb Pc Ph Pi Pj Pd Pk. -/
import Derived.Test.YtdamnfpigajmoaaGreatDoorM06
import Derived.Test.YtdamnfpigajmoaaGreatDoorM39
import Derived.Test.YtdamnfpigajmoaaGreatDoorM42
import Derived.Test.YtdamnfpigajmoaaGreatDoorM37
import Derived.Test.YtdamnfpigajmoaaGreatDoorM15
set_option linter.unusedVariables false
set_option linter.unusedSectionVars false
set_option linter.unusedSimpArgs false
set_option maxHeartbeats 8000000
set_option maxRecDepth 100000
namespace Go.Fk
abbrev mR:=@Int.eq_ofNat_of_zero_le
end Go.Fk
namespace Go.Proofs.YtdamnfpigajmoaaGreatDoor
open Go.RowKit Go.Fk
theorem G9(p:Bool)(l:List am)(d:List Nat)(k:Nat)(e:k<d.length):dZ p l d k=iK p (bT true ((l.take (d.take (k+1)).sum).drop (d.take k).sum)):=by
 unfold dZ;rw [List.drop_take,jQ d k e,rV,cD,bo e];rfl
theorem Kt(y:Nat)(bu:Int)(p:Bool)(d q c:Int)(U:16<=y)(A:y<=32768)(v:Value)(l:List am)(w:World)(V:af w eR v l)(M:du l) :
  Calls Tryz.prog 40 #[aK ⟨(y:Int),p,bu,d,q,c⟩,v] w fun e w'=>∃ fv,e=.returned fv/\(∃ z,bY w' aP eB fv z (aZ (dZ p l (aT y (aD true) l)) (aT y (aD true) l).length))/\Fr w w':=by
 have a2:∀ r∈l,r.source.length<=100000/\r.text.length<=100000:=fun r J=>by have:=M.each r J;omega
 have c7:=ad (fun W (h:Fr w W)=>AZ true y (by omega) (by omega) v l W (V.fr h) (by have:=M.len;omega) a2);have b3:=m7 y (aD true) l;have fa:=mz y (aD true) l;have c8:=ad (fun o k=>M.frmT p o k);have fb:=M.len;have HSub:=ad (fun W (h:Fr w W) i k (U:i<=k) (A:k<=l.length) a b4 (Q:v=.slice a l.length b4)=>qE eR 24 Tryz.underlying24 (by have:=V.fr h;rw [Q]at this;exact this) i k U A);have c9:=ad (fun v' (q:List am) W (h:af W eR v' q) (A:(bT true q).length<=6000) (Q:∀ r∈q,r∈l)=>Bc true v' q W h (by omega) (fun r J=>a2 r (Q r J)));have cA:=ad (fun v' q W (A:af W eB v' q) (Q:q.length<=32768)=>Bd p v' q W A Q);have cF:=ad (G9 p l);have cG:Hid (∀ (o:List Nat) (k:Nat),k<o.length->(l.drop (o.take k).sum).take (o.getD k 0)=(l.take (o.take (k+1)).sum).drop (o.take k).sum):=fun o k hk=>by rw [List.drop_take,jQ o k hk,rV,cD,bo hk];rfl
 obtain⟨a0,b4,rfl,fd,da,dc⟩:=V.shape;unfold maxLen at da;clear V M dc a2;generalize aT y (aD true) l=o at *;go_enter Tryz.func40, Tryz.ntmps40;go_wp2_with fail;refine(c7.out _ ((Fr.refl w).alloc _)).mono ?_;rintro e w1 ⟨v1,rfl,b5,a4⟩;have a5:=a4.heap (au w (.cells #[N y,.bool p,.int .i64 bu,.int .i64 d,.int .i64 q,.int .i64 c] 23) _ rfl);have b8:Fr w w1:=((Fr.refl w).alloc _).trans a4;have D:=b5.rebase (b:=w.heap.size) (by simp);clear b5 a4;obtain⟨ca,cc,rfl⟩:=D.shape';obtain⟨O,X⟩:∃ O,O=w.heap.size:=⟨_,rfl⟩;rw [<- X]at a5 D;have HO:=ad X;rw [<- X];clear X;have dl:=ad (jQ o);have bA:=ad (kX o);have dr:=ad b3;clear b3;go_wp2_with fail;go_loopw [6,7,8] (fun pv av iv wr=>∃ (k:Nat) (z:List Hd),k<=o.length/\iv=N k/\av=N (o.take k).sum/\wr.heap[O]? = some (.cells #[N y,.bool p,.int .i64 bu,.int .i64 d,.int .i64 q,.int .i64 c] 23 (0,0))/\Ow wr O eJ (.slice ca o.length cc) o/\Ow wr O aP pv z/\ck wr O eB z (aZ (dZ p l o) k)/\Fr w wr) (fun _ _ iv _=>o.length - (intOf iv).toNat);case atStart=>exact⟨0,[],ap _,rfl,by simp,a5,D,Ow.nil,⟨rfl,fun t a=>by simp at a⟩,b8⟩
 case round=>
  clear a5 D b8;obtain⟨k,z,hk,rfl,rfl,Y,D,Z,hR,hf⟩:=hrel;have bB:O<=wr.heap.size:=(by have:=(aR.1 Y).1;omega);by_cases R:k<o.length
  · obtain⟨b1,cb,fm,d0,d1⟩:=dL D.see k R;cases d0;have d4:=bA.out k;have d5:=bA.out (k+1);have d6:=dr.out;have ch:=dl.out k R;have K:=c8.out o k;rw [cG.out o k R]at K;replace K:=ad K;have d7:=ad (cF.out o k R);have d8:=ad (nJ (dZ p l o) k);generalize cj:(o.take (k+1)).sum=L at *;have d9:=ad cj;clear cj;generalize (o.take k).sum=m at *;generalize hx:o[k]=x at *;have HX:=ad hx;clear hx;have ec:L<=l.length:=(by omega);have a7:Hid (L=m+x):=ch;obtain⟨sa,sc,ba,bb⟩:=HSub.out wr hf m L (by omega) ec _ _ rfl;have cm:((L:Nat):Int)=(m:Int)+x:=(by omega);rw [cm]at ba;generalize cn:(l.take L).drop m=su at *;have ef:=ad (show ∀ r∈su,r∈l from fun r J=>by rw [<- cn]at J;exact eD (kJ J));clear cn ch cm d4 d5 d6;have co:L - m=x:=(by have:=a7.out;omega);rw [co]at ba bb;clear co;have cp:=ad (c9.out _ su (wr.drew) bb.drew K.out.1 ef.out);generalize ek:bT true su=ct at *;have bd:=ad (fun W v' (A:af W eB v' ct)=>cA.out v' ct W A (by have:=K.out.1;omega));rw [<- d7.out]at bd;have fs:(dZ p l o k).length<=6025:=K.out.2;generalize cv:dZ p l o k=fk at *;have f0:=ad cv;clear cv ek;have i1:(0:Int)<=k:=(by omega);have i2:(k:Int)<o.length:=(by omega);have i3:(0:Int)<=m:=(by omega);have i4:IntKind.i64.wrap ((m:Int)+x)=(m:Int)+x:=ar _ (by have:=a7.out;omega);have x0:=ae Y 1 rfl;obtain⟨f5,f6,rfl⟩:=Z.shape';have f7:z.length<=60:=(by have:=hR.1;simp only [aZ,dQ,kK]at this;omega);go_upto_region 7 with fail
    go_region_held3 (fun w' => w'.cell? ⟨O, 1, none⟩ = some (.bool p) ∧ w'.cell? ⟨b1, cb + k, none⟩ = some (N x))
     (first | go_keep)
     ((first
      | (go_at_call 76; refine cp.out.mono ?_; rintro e w5 ⟨v5, rfl, bk, T⟩; obtain ⟨p5, z5, er⟩ := bk.shape'; subst er; have y0 := T.cell x0; have y1 := T.cell d1)
      | (go_at_call 75; refine (bd.out _ _ bk.see).mono ?_; rintro e w6 ⟨v6, rfl, bm, ac⟩; obtain ⟨p6, z6, es⟩ := bm.shape'; subst es; have u0 := ac.cell y0; have u1 := ac.cell y1)))
    have F:Fr wr w6:=(Fr.refl wr).drew.trans (T.trans ac);have bv:=F.heap Y;have c3:=D.fr F;have G:=Z.fr F;have bx:=hR.fr F;have bz:=hf.trans F;have c4:=bm.rebase (b:=O) (aq bB ((Fr.refl wr).drew.trans T).size);have e1:O<=w6.heap.size:=aq bB F.size;clear Y D Z hR hf bk bm T ac x0 y0 y1 u0 u1 ba bb d1 F bd cp;go_wp2_with (at_builtin;refine aM aP rfl (.tmp 37) (.tmp 39) 72 rfl Tryz.underlying72 O rfl G [⟨p6,fk.length,z6⟩] _ _ _ rfl rfl rfl ?c1 e1 ?_);case c1=>first | omega | (simp;omega)
    intro v8 w8 I;have e2:=I.chg'.heap bv (G.ne_cells bv (by decide));have c5:=b9 c3 G I (by decide);have e3:=b9 c4 G I (by decide);have e4:ck w8 O eB z (aZ (dZ p l o) k):=⟨bx.1,fun t U A=>b9 (bx.2 t U A) G I (by decide)⟩;have e5:Fr w w8:=I.below G bz (by rw [HO.out];exact ag _) bz.size;have e6:=I.own;obtain⟨b2,g0,g1,e7,d2⟩:=dL c5.see k R;cases e7;have d3:w8.cell? ⟨b1,cb+k,none⟩=some (N x):=(by rw [<- HX.out];exact d2);clear bv c3 G bx bz c4 I d2;go_wp2_with fail;go_roundw
    case rel=>
     have r6:ck w8 O eB (z++[(⟨p6,fk.length,z6⟩:Hd)]) (aZ (dZ p l o) (k+1)):=by
      rw [d8.out];refine tG e4 ⟨rfl,fun t a b=>?_⟩
      match t,a with
      | 0,_=>exact e3
     exact⟨k+1,z++[(⟨p6,fk.length,z6⟩:Hd)],by omega,by go_num,by rw [d9.out,a7.out];go_num,e2,c5,e6,r6,e5⟩
    case measure=>simp [intOf];omega
  · obtain rfl:k=o.length:=(by omega);have g3:¬(o.length:Int)<o.length:=(by omega);go_wp2_with fail;go_ret;exact⟨_,rfl,⟨z,hR.sees2 Z.see⟩,hf⟩
theorem JW(d m n:Nat)(p:Bool)(fv:Value)(A:List Hd)(o:Nat->List UInt8)(w:World)(F:bY w aP eB fv A (aZ o n))(X:d<=32768)(Y:m<=60)(Z:n<=60)(aa:∀ k,(o k).length<=6025) :
  Calls Tryz.prog 41 #[N d,Fk.u8 (if p then 1 else 0),N m,N n,fv] w fun e w'=>∃ u,e=.returned u/\Ow w' w.heap.size eB u (ay (ku d p m n++(aZ o n).flatten))/\Fr w w':=by
 have er:=ad (nJ o);have cp:=ad (oZ o 6025 aa);have cs:=ad aa;have ab:A.length=n:=by rw [F.2.1];simp [aZ]
 have ct:=ad (fun W (h:Fr w W) k (I:k<A.length)=>(F.fr h).1.cell1 (fun(h:Hd)=>h.v) rfl k I);have cv := ad (fun W (h : Fr w W) k (I : k < A.length) => (show af W eB A[k].v (o k) from by
  have X := (F.fr h).2.2 k I (by simp [aZ]; omega)
  simpa [aZ] using X))
 have cx:=ad (fun v q W (Y:af W eB v q) (Z:q.length<=1000000)=>lQ v q W Y Z);have cy:=ad (jI d (by omega));have cz:=ad (jI m (by omega));have c0:=ad (jI n (by omega));have es:=aG d (by omega);have ev:=aG m (by omega);have e0:=aG n (by omega);have e1:IntKind.u64.wrap (d:Int)=(d:Int):=aX _ (by omega);have e2:IntKind.u64.wrap (m:Int)=(m:Int):=aX _ (by omega);have e3:IntKind.u64.wrap (n:Int)=(n:Int):=aX _ (by omega);have J:Hid (ku d p m n=dy 1++ao d++[(if p then 1 else 0)]++ao m++ao n):=rfl;have c4:=ad (y7 d p m n X Y Z);obtain⟨fa,fc,rfl,_⟩:=F.1.shape;have bv:=ad ab;rw [ab];clear F ab aa
 have bx:Hid (∀ W:World,w.heap.size<=W.heap.size->Ow (W.alloc (.cells #[.int .u8 70,.int .u8 73,.int .u8 82,.int .u8 75,.int .u8 1] 5)) w.heap.size eB (.slice (some ⟨W.heap.size,0,none⟩) 5 5) (dy 1)):=fun W hb=>
  iC eB _ _ (dy 1) 5 rfl (by show 5<=maxLen;unfold maxLen;omega) hb rfl
 have e6:(dy 1).length=5:=rfl;generalize dy 1=MK at *;generalize ku d p m n=H at *;generalize ao d=c9 at *;generalize ao m=cA at *;generalize ao n=e7 at *;generalize (if p then(1:UInt8)else 0)=fl at *;have b0:=bx.out w (ag _);have b2:Fr w (w.alloc (.cells #[.int .u8 70,.int .u8 73,.int .u8 82,.int .u8 75,.int .u8 1] 5)):=(Fr.refl w).alloc _;go_enter Tryz.func41, Tryz.ntmps41;go_wp2_with fail;refine(cy.out _).mono ?_;rintro e w1 ⟨v1,rfl,b3,ac⟩;have aj:=b0.fr ac;have K:=b2.trans ac;clear b0 b2 ac;go_wp2_with (at_builtin;refine aN eB rfl (.tmp 14) (.tmp 17) 29 rfl Tryz.underlying29 _ rfl aj _ _ rfl b3.see ?c1 K.size ?_);case c1=>omega
 intro v2 w2 av;have G:=av.own;have L:Fr w w2:=av.below aj K (ag _) K.size;obtain⟨m2,a0⟩:∃ q,q=MK++c9:=⟨_,rfl⟩;rw [<- a0]at G J;have fk:m2.length<=15:=by rw [a0,an];omega
 obtain⟨a2,c2,rfl⟩:=G.shape';clear aj K av b3 a0 bx;go_wp2_with (at_builtin;refine aM eB rfl (.tmp 19) (.tmp 21) 29 rfl Tryz.underlying29 w.heap.size rfl G [fl] _ _ _ rfl rfl rfl ?c1 L.size ?_);case c1=>simp;omega
 intro v3 w3 a1;have M:=a1.own;have b5:Fr w w3:=a1.below G L (ag _) L.size;obtain⟨m3,a4⟩:∃ q,q=m2++[fl]:=⟨_,rfl⟩;rw [<- a4]at M J;have fm:m3.length<=16:=by rw [a4,an];simp;omega
 obtain⟨a3,c3,rfl⟩:=M.shape';clear G L a1 a4;go_wp2_with fail;refine(cz.out _).mono ?_;rintro e w4 ⟨v4,rfl,bA,a6⟩;have ba:=M.fr a6;have O:=b5.trans a6;clear M b5 a6;go_wp2_with (at_builtin;refine aN eB rfl (.tmp 23) (.tmp 26) 29 rfl Tryz.underlying29 _ rfl ba _ _ rfl bA.see ?c1 O.size ?_);case c1=>omega
 intro v5 w5 bb;have Q:=bb.own;have bB:Fr w w5:=bb.below ba O (ag _) O.size;obtain⟨m5,bc⟩:∃ q,q=m3++cA:=⟨_,rfl⟩;rw [<- bc]at Q J;have f2:m5.length<=26:=by rw [bc,an];omega
 obtain⟨a5,c5,rfl⟩:=Q.shape';clear ba O bb bA bc;go_wp2_with fail;refine(c0.out _).mono ?_;rintro e w6 ⟨v6,rfl,bR,bd⟩;have bf:=Q.fr bd;have R:=bB.trans bd;clear Q bB bd;go_wp2_with (at_builtin;refine aN eB rfl (.tmp 28) (.tmp 31) 29 rfl Tryz.underlying29 _ rfl bf _ _ rfl bR.see ?c1 R.size ?_);case c1=>omega
 intro v7 w7 bk;have U:=bk.own;have ca:Fr w w7:=bk.below bf R (ag _) R.size;rw [<- J.out]at U;obtain⟨a7,c7,rfl⟩:=U.shape';clear bf R bk bR;go_wp2_with fail;go_loopw [11,12] (fun ov iv wr=>∃ k:Nat,k<=n/\iv=N k/\Ow wr w.heap.size eB ov (H++(aZ o k).flatten)/\Fr w wr) (fun _ iv _=>n - (intOf iv).toNat);case atStart=>exact⟨0,ap _,rfl,by simpa [aZ] using U,ca⟩
 case round=>
  clear U ca;obtain⟨k,I,rfl,z,D⟩:=hrel;have dk:=cp.out k;have dl:k*6025<=60*6025:=cW _ (by omega);have gb:=c4.out;by_cases cb:k<n
  · have cc:k<A.length:=(by rw [bv.out];exact cb);obtain⟨b1,ge,gs,cf,d1⟩:=ct.out wr D k cc;rw [bv.out]at cf;cases cf;have V:=cv.out wr D k cc;have gv:=cs.out k;have dr:=ad (zp o H k);generalize cj:H++(aZ o k).flatten=ok at *;have g0:ok.length<=361536:=(by rw [<- cj,an];omega);clear cj;generalize dv:A[k]=h at *;clear dv;generalize d0:o k=y at *;clear d0;obtain⟨ha,hn,hc⟩:=h;have d3:hn=y.length:=(by obtain⟨a2,c2,hh,_⟩:=V.shape;simp only [Hd.v,ed]at hh;exact hh.2.1);subst d3;simp only [Hd.v]at d1 V;have i1:(0:Int)<=k:=(by omega);have i2:(k:Int)<n:=(by omega);obtain⟨oa,oc,rfl⟩:=z.shape';go_wp2_with (at_builtin;refine aN eB rfl (.tmp 39) (.tmp 43) 29 rfl Tryz.underlying29 _ rfl z _ _ rfl V ?c1 D.size ?_);case c1=>omega
    intro v8 w8 cn;have d7:=cn.own;have d8:Fr w w8:=cn.below z D (ag _) D.size;clear d1 z V;go_wp2_with fail;go_roundw;case rel=>exact⟨k+1,by omega,by go_num,by rw [dr.out];exact d7,d8⟩
    case measure=>simp [intOf];omega
  · have bn:k=n:=(by omega);rw [bn]at z;have g5:¬(k:Int)<n:=(by omega);have d9:(H++(aZ o n).flatten).length<=1000000:=(by rw [<- bn,an];omega);obtain⟨T,hT⟩:∃ q,q=H++(aZ o n).flatten:=⟨_,rfl⟩;rw [<- hT]at z d9;have HT:=ad hT;clear hT bn dk dl cb;have ec:=ad (cx.out _ T wr z.see (by omega));obtain⟨oa,oc,rfl⟩:=z.shape';clear z;go_wp2_with fail;refine ec.out.mono ?_;rintro e w8 ⟨v8,rfl,co,ef⟩;have HR:=ad (co.rebase D.size);clear co;go_wp2_with fail;go_ret;exact⟨_,rfl,by rw [<- HT.out];exact HR.out,D.trans ef⟩
theorem K9(o:be)(d:gQ o=false)(v:Value)(l:List am)(w:World)(h:af w eR v l) :
  Calls Tryz.prog 18 #[aK o,v] w fun e w'=>e=.returned (.tuple #[.slice none 0 0,.int .i64 9])/\Fr w w':=by
 have m:=ad (fun W=>vg o W);rw [ah (by rw [d];simp)]at m;obtain⟨y,z,rfl,_⟩:=h.shape;clear h d;obtain⟨A,D,F,G,op,I⟩:=o;go_enter Tryz.func18, Tryz.ntmps18;go_wp2_with fail;refine(m.out _).mono ?_;rintro e J ⟨rfl,q⟩;go_wp2_with fail;go_ret2;exact⟨rfl,((Fr.refl w).alloc _).trans q⟩
theorem KA(o:be)(m:gQ o=true)(v:Value)(l:List am)(w:World)(d:af w eR v l)(q:cV l=false) :
  Calls Tryz.prog 18 #[aK o,v] w fun e w'=>e=.returned (.tuple #[.slice none 0 0,.int .i64 6])/\Fr w w':=by
 have y:=ad (fun W=>vg o W);rw [ai m]at y;have z:=ad (fun W (h:Fr w W)=>mF v l W (d.fr h));rw [ah (by rw [q];simp)]at z;obtain⟨I,J,rfl,_⟩:=d.shape;clear d q m;obtain⟨K,L,M,O,op,Q⟩:=o;go_enter Tryz.func18, Tryz.ntmps18;go_wp2_with fail;refine(y.out _).mono ?_;rintro e D ⟨rfl,F⟩;have A:Fr w D:=((Fr.refl w).alloc _).trans F;go_wp2_with fail;refine(z.out _ A).mono ?_;rintro e R ⟨rfl,G⟩;go_wp2_with fail;go_ret2;exact⟨rfl,A.trans G⟩
theorem KB(d:Nat)(p:Bool)(h1:16<=d)(Q:d<=32768)(v:Value)(l:List am)(w:World)(y:af w eR v l)(o:du l) :
  Calls Tryz.prog 18 #[aK ⟨(d:Int),p,0,0,0,0⟩,v] w fun e w'=>∃ u,e=.returned (.tuple #[u,.int .i64 0])/\Ow w' w.heap.size eB u (kQ d p l)/\Fr w w':=by
 have R:gQ ⟨(d:Int),p,0,0,0,0⟩=true:=(tL _).2 ⟨by show(16:Int)<=(d:Int);omega,by show(d:Int)<=32768;omega,rfl,rfl,rfl,rfl⟩;have U:=ad (fun W=>vg ⟨(d:Int),p,0,0,0,0⟩ W);rw [ai R]at U;have V:=ad (fun W (h:Fr w W)=>mF v l W (y.fr h));rw [ai o.ok]at V;have av:=o.len;have bz:=mz d (aD true) l;have a1:=ad (fun W (h:Fr w W)=>Kt d 0 p 0 0 0 h1 Q v l W (y.fr h) o);have X:Hid (kQ d p l=ay (ku d p l.length (aT d (aD true) l).length++(aZ (dZ p l (aT d (aD true) l)) (aT d (aD true) l).length).flatten)):=rfl;have Y:=ad (fun F W z hf=>JW d l.length (aT d (aD true) l).length p F z (dZ p l (aT d (aD true) l)) W hf Q av (by omega) (fun k=>(o.frmT p _ k).2));rw [<- X.out]at Y;have a3:=ad (fun W=>vi p W);obtain⟨a0,b1,rfl,b2,a4,a5⟩:=y.shape;unfold maxLen at a4;clear y o a5 R X;generalize kQ d p l=T at *;generalize a6:aT d (aD true) l=A at *;clear a6;generalize Z:aZ (dZ p l A) A.length=fs at *;have ba:fs.length=A.length:=by rw [<- Z];simp [aZ]
 clear Z;generalize (if p then(1:UInt8)else 0)=fl at *;go_enter Tryz.func18, Tryz.ntmps18;go_wp2_with fail;refine(U.out _).mono ?_;rintro e w1 ⟨rfl,G⟩;have aa:=G.heap (au w (.cells #[N d,.bool p,.int .i64 0,.int .i64 0,.int .i64 0,.int .i64 0] 23) _ rfl);have I:Fr w w1:=((Fr.refl w).alloc _).trans G;clear G;go_wp2_with fail;refine(V.out _ I).mono ?_;rintro e w2 ⟨rfl,J⟩;have K:=I.trans J;have m:=J.heap aa;have c0:=ae m 0 rfl;have c1:=ae m 1 rfl;have c2:=ae m 2 rfl;have c3:=ae m 3 rfl;have c4:=ae m 4 rfl;have c5:=ae m 5 rfl;go_wp2_with fail;refine(a1.out _ K).mono ?_;rintro e q ⟨F,rfl,⟨z,D⟩,L⟩;have ab:=K.trans L;have M:=L.heap m;have x0:=ae M 0 rfl;have x1:=ae M 1 rfl;have bu:z.length=A.length:=by rw [D.2.1,ba]
 have bv:=ad (Y.out F q.drew z (D.fr (Fr.refl q).drew));obtain⟨fa,fc,rfl,_⟩:=D.1.shape;rw [bu]at *;clear I K J L aa m M c0 c1 c2 c3 c4 c5 D;go_upto_region 7 with fail
 go_region_held3 (fun w' => w'.cell? ⟨w.heap.size, 0, none⟩ = some (N d) ∧ w'.cell? ⟨w.heap.size, 1, none⟩ = some (.bool p))
  (first | go_keep)
  ((first
   | (go_at_call 42; refine (a3.out _).mono ?_; rintro e w4 ⟨rfl, rfl⟩)
   | (go_at_call 41; refine bv.out.mono ?_; rintro e w7 ⟨v7, rfl, ac, O⟩; have u0 := ((Fr.refl q).drew.trans O).cell x0; have u1 := ((Fr.refl q).drew.trans O).cell x1)))
 have HR:=ad (ac.rebase ab.size);clear ac;go_wp2_with fail;go_ret2;exact⟨_,rfl,HR.out,ab.trans ((Fr.refl q).drew.trans O)⟩
theorem KT(w:World):Calls Tryz.prog 29 #[.int .i64 2] w fun e w'=>∃ v,e=.returned (.tuple #[v,.int .i64 0])/\Ow w' w.heap.size eB v (dy 2)/\Fr w w':=by
 have h:=ad (ik 2 1 3);rw [show(decide ((1:Int)<=2/\(2:Int)<=3))=true from rfl]at h
 have z:(convert 29 29 (.slice (some ⟨w.heap.size,0,none⟩) 4 4)).run Tryz.prog (w.alloc (.cells #[.int .u8 70,.int .u8 73,.int .u8 82,.int .u8 75] 5))=.ok (.slice (some ⟨w.heap.size,0,none⟩) 4 4) (w.alloc (.cells #[.int .u8 70,.int .u8 73,.int .u8 82,.int .u8 75] 5 (4,5))):=
  vU w 29 5 #[.int .u8 70,.int .u8 73,.int .u8 82,.int .u8 75] 4 4 w.heap.size rfl Tryz.underlying29 Tryz.underlying5
 obtain⟨v,w4,d,m,y⟩:=yJ 2 w;obtain⟨o,q,rfl⟩:=m.shape';replace d:(Builtin.append_ #[29,29] 29 #[.slice (some ⟨w.heap.size,0,none⟩) 4 4,.slice (some ⟨w.heap.size+1,0,none⟩) 1 1]).run Tryz.prog ((w.alloc (.cells #[.int .u8 70,.int .u8 73,.int .u8 82,.int .u8 75] 5 (4,5))).alloc (.cells #[.int .u8 2] 5))=.ok (.slice o (dy 2).length q) w4:=d;go_enter Tryz.func29, Tryz.ntmps29;go_wp2_with fail;refine(h.out _).mono ?_;rintro e D ⟨rfl,rfl⟩;go_wp2_with (at_builtin;refine Lib.wpList_append_run _ rfl (.tmp 8) (.tmp 11) 29 29 rfl _ _ rfl rfl _ _ d ?_);exact b6 (v:=.tuple #[.slice o (dy 2).length q,.int .i64 0]) (by simp [results,Tryz.results29,go_sem, *]) rfl ⟨_,rfl,m,y⟩
theorem KM(o:be)(d:gQ o=false)(v:Value)(l:List am)(w:World)(h:af w eR v l) :
  Calls Tryz.prog 15 #[aK o,v] w fun e w'=>e=.returned (.tuple #[.slice none 0 0,.int .i64 9])/\Fr w w':=by
 have m:=ad (fun W=>Bi o W);rw [ah (by rw [d];simp)]at m;obtain⟨A,D,rfl,_⟩:=h.shape;clear h d;go_enter Tryz.func15, Tryz.ntmps15;go_wp2_with fail;refine(m.out _).mono ?_;rintro e q ⟨rfl,y⟩;have z:Fr w q:=((Fr.refl w).alloc _).trans y;go_wp2_with fail;go_ret2;exact⟨rfl,z⟩
theorem KN(o:be)(m:gQ o=true)(v:Value)(l:List am)(w:World)(d:af w eR v l)(q:cV l=false) :
  Calls Tryz.prog 15 #[aK o,v] w fun e w'=>e=.returned (.tuple #[.slice none 0 0,.int .i64 6])/\Fr w w':=by
 have y:=ad (fun W=>Bi o W);rw [ai m]at y;have z:=ad (fun W (h:Fr w W)=>pH v l W (d.fr h));rw [q]at z;obtain⟨J,K,rfl,_⟩:=d.shape;clear d m q;obtain⟨L,M,O,Q,op,R⟩:=o;go_enter Tryz.func15, Tryz.ntmps15;go_wp2_with fail;refine(y.out _).mono ?_;rintro e D ⟨rfl,F⟩;have A:Fr w D:=((Fr.refl w).alloc _).trans F;go_wp2_with fail;refine(z.out _ A).mono ?_;rintro e T ⟨rfl,G⟩;have I:=A.trans G;go_wp2_with fail;go_ret2;exact⟨rfl,I⟩
theorem Ji(o:be)(d:gP o=false)(v:Value)(l:List am)(w:World)(h:af w eR v l) :
  Calls Tryz.prog 16 #[aK o,v] w fun e w'=>e=.returned (.tuple #[.slice none 0 0,.int .i64 9])/\Fr w w':=by
 have m:=ad (fun W=>Bh o W);rw [ah (by rw [d];simp)]at m;obtain⟨A,D,rfl,_⟩:=h.shape;clear h d;go_enter Tryz.func16, Tryz.ntmps16;go_wp2_with fail;refine(m.out _).mono ?_;rintro e q ⟨rfl,y⟩;have z:Fr w q:=((Fr.refl w).alloc _).trans y;go_wp2_with fail;go_ret2;exact⟨rfl,z⟩
theorem Jj(o:be)(q:gP o=true)(y:dF o=true)(v:Value)(l:List am)(w:World)(m:af w eR v l)(z:cV l=false) :
  Calls Tryz.prog 16 #[aK o,v] w fun e w'=>e=.returned (.tuple #[.slice none 0 0,.int .i64 6])/\Fr w w':=by
 have A:=ad (fun W=>Bh o W);rw [ai q]at A;have G:=ad (fun W (h:Fr w W)=>Bt o y v l W (m.fr h) z);obtain⟨T,U,rfl,_⟩:=m.shape;clear m q y z;obtain⟨I,J,K,L,op,M⟩:=o;go_enter Tryz.func16, Tryz.ntmps16;go_wp2_with fail;refine(A.out _).mono ?_;rintro e O ⟨rfl,D⟩;have d:=D.heap (au w (.cells #[.int .i64 I,.bool J,.int .i64 K,.int .i64 L,.int .i64 op,.int .i64 M] 23) _ rfl);have F:Fr w O:=((Fr.refl w).alloc _).trans D;have V:=ae d 0 rfl;have X:=ae d 1 rfl;have c2:=ae d 2 rfl;have Y:=ae d 3 rfl;have Z:=ae d 4 rfl;have c5:=ae d 5 rfl;go_wp2_with fail;refine(G.out _ F).mono ?_;rintro e w2 ⟨rfl,Q⟩;have R:=F.trans Q;go_wp2_with fail;go_ret2;exact⟨rfl,R⟩
theorem IR(W:World)(p0 p1 p2 p3:Hd)(d h m o:List UInt8)(q:af W eB p0.v d)(y:af W eB p1.v h)(z:af W eB p2.v m)(A:af W eB p3.v o)(J:d.length+h.length+m.length+o.length<=1000000) :
  Calls Tryz.prog 30 #[.slice (some ⟨W.heap.size,0,none⟩) 4 4] (W.alloc (.cells #[p0.v,p1.v,p2.v,p3.v] 29)) fun e w'=>∃ v,e=.returned v/\Ow w' W.heap.size eB v (d++h++m++o)/\Fr W w':=by
 have D := nE W #[p0.v, p1.v, p2.v, p3.v] 29 [p0, p1, p2, p3] [d, h, m, o] 4 rfl rfl rfl (by simp) (fun i F K => by
  match i, F with
  | 0, _ => exact q
  | 1, _ => exact y
  | 2, _ => exact z
  | 3, _ => exact A)
 refine(lm _ _ _ _ D (by simp;omega)).mono ?_;rintro e w' ⟨v,rfl,G,I⟩;exact⟨v,rfl,by simpa using G.rebase (b:=W.heap.size) (by simp),((Fr.refl W).alloc _).trans I⟩
def gL(d:Nat)(p:Bool)(e:Nat):List UInt8:=dy 2++ao d++[(if p then 1 else 0)]++ao e
theorem Jg (o m : Nat) (p : Bool) (d q c : Int) (O : o ≤ 32768) (h4 : m ≤ 64) (w : World) (ht : bU w) :
    Calls Tryz.prog 37 #[aK ⟨(o:Int),p,(m:Int),d,q,c⟩] w fun e w'=>∃ v,e=.returned v/\Ow w' w.heap.size eB v (ay (gL o p m))/\Fr w w':=by
  have b1:=ad KT;have b2:=ad (jK o (by omega));have a5:=ad (jK m (by omega));have b3:=ad (fun v q W (h:Fr w W) (O:af W eB v q) (h3:q.length<=1000000)=>nZ v q W O h3 (ht.fr h));have n1:=aG o (by omega);have n2:=aG m (by omega);have a7:Hid ((dy 2).length=5):=rfl;have ba:Hid (gL o p m=dy 2++ao o++[(if p then 1 else 0)]++ao m):=rfl;have b4:Hid ((gL o p m).length<=1000):=(by show _<=_;rw [ba.out];simp only [an];rw [a7.out];simp;omega);generalize gL o p m=H at *;generalize ao o=ab at *;generalize ao m=ac at *;generalize dy 2=MK at *;have T:=ad (fun W p0 p1 p2 p3 h0 h1 O h3=>IR W p0 p1 p2 p3 MK ab [(if p then 1 else 0)] ac h0 h1 O h3 (by have:=a7.out;simp;omega));rw [<- ba.out]at T;have w1:IntKind.u64.wrap (o:Int)=(o:Int):=aX _ (by omega);have w2:IntKind.u64.wrap (m:Int)=(m:Int):=aX _ (by omega);have bb:=au w (.cells #[N o,.bool p,N m,.int .i64 d,.int .i64 q,.int .i64 c] 23) w.heap.size rfl;have b5:Fr w (w.alloc (.cells #[N o,.bool p,N m,.int .i64 d,.int .i64 q,.int .i64 c] 23)):=(Fr.refl w).alloc _;generalize dc:w.alloc (.cells #[N o,.bool p,N m,.int .i64 d,.int .i64 q,.int .i64 c] 23)=W0 at *;have a1:=ae bb 1 rfl;obtain⟨F,bc⟩:∃ F:UInt8,F=(if p then 1 else 0):=⟨_,rfl⟩;rw [<- bc]at T;have bd:=ad (And.intro bc trivial);clear bc ba a7 n1 n2 ht;go_enter Tryz.func37, Tryz.ntmps37;go_upto_if 7 with fail;go_cut [3]from 7 to 8 (fun cv wx=>cv=Fk.u8 F/\W0=wx)
  case first=>
    cases p with
    | true=>have e:F=1:=bd.out.1;subst e;go_wp2_with fail;go_meet;exact⟨rfl,rfl⟩
    | false=>have e:F=0:=bd.out.1;subst e;go_wp2_with fail;go_meet;exact⟨rfl,rfl⟩
  case rest=>
    obtain⟨rfl,rfl⟩:=hcut;clear a1 bd;go_wp2_with fail;refine(b1.out _).mono ?_;rintro e G ⟨mv,rfl,av,bf⟩;obtain⟨ma,mc,rfl⟩:=av.shape';have bn:=bf.heap bb;have bt:=b5.trans bf;have y0:=ae bn 0 rfl;have y2:=ae bn 2 rfl;have HL:=ad (fun W=>iY eB W [F] #[Fk.u8 F] 5 1 rfl rfl (by show 1<=maxLen;unfold maxLen;omega));have A:=ad (fun W (h:Fr G W)=>And.intro (h.cell y0) (h.cell y2));have b8:∀ W:World,Fr W (W.alloc (.cells #[Fk.u8 F] 5)):=fun W=>(Fr.refl W).alloc _;have I:=ad b8;have HP:=ad (fun v W (h:Fr w W) (O:af W eB v H)=>b3.out v H W h O (aq b4.out (by omega)));obtain⟨k0,k2⟩:=A.out _ (I.out G);clear bb b5 bf bn b1 b3 b4 b8;go_upto_region 5 with fail
    go_region_held_law (fun w' => w'.cell? ⟨w.heap.size, 0, none⟩ = some (N o) ∧ w'.cell? ⟨w.heap.size, 2, none⟩ = some (N m))
      (first | go_keep)
      (((first
        | (go_at_call_of 31 (Value.int IntKind.u64 (o : Int)); refine (b2.out G.drew).mono ?_; rintro e z ⟨v5, rfl, Q, a0⟩; obtain ⟨p5, z5, bx⟩ := Q.shape'; subst bx
           have M : Fr G z := (Fr.refl G).drew.trans a0
           obtain ⟨u0, u2⟩ := A.out z M
           obtain ⟨dk, dl⟩ := A.out _ (M.trans (I.out z)))
        | (go_at_call_of 31 (Value.int IntKind.u64 (o : Int)); refine (b2.out (G.drew.alloc (.cells #[Fk.u8 F] 5))).mono ?_; rintro e z ⟨v5, rfl, Q, a0⟩; obtain ⟨p5, z5, bx⟩ := Q.shape'; subst bx
           have M : Fr G z := ((Fr.refl G).drew.trans (I.out G.drew)).trans a0
           have c7 := (HL.out G.drew).fr a0
           obtain ⟨u0, u2⟩ := A.out z M)
        | (go_at_call_of 31 (Value.int IntKind.u64 (m : Int)); refine (a5.out z).mono ?_; rintro e y ⟨v7, rfl, K, J⟩; obtain ⟨U, V, X⟩ := K.shape'; subst X
           have L7 := c7.fr J
           have D := M.trans J
           have Y := Q.see.fr J
           obtain ⟨t0, t2⟩ := A.out y D)
        | (go_at_call_of 31 (Value.int IntKind.u64 (m : Int)); refine (a5.out (z.alloc (.cells #[Fk.u8 F] 5))).mono ?_; rintro e y ⟨v7, rfl, K, J⟩; obtain ⟨U, V, X⟩ := K.shape'; subst X
           have L7 := (HL.out z).fr J
           have D := (M.trans (I.out z)).trans J
           have Y := Q.see.fr ((I.out z).trans J)
           obtain ⟨t0, t2⟩ := A.out y D)
        | (go_at_call_of 31 (Value.int IntKind.u64 (m : Int)); refine (a5.out z).mono ?_; rintro e y ⟨v7, rfl, K, J⟩; obtain ⟨U, V, X⟩ := K.shape'; subst X
           have D := M.trans J
           have Y := Q.see.fr J
           obtain ⟨t0, t2⟩ := A.out y D
           obtain ⟨dr, ds⟩ := A.out _ (D.trans (I.out y)))
        | (go_at_call 30; refine (T.out y ⟨ma, MK.length, mc⟩ ⟨p5, ab.length, z5⟩ ⟨some ⟨G.heap.size, 0, none⟩, 1, 1⟩ ⟨U, ac.length, V⟩ (av.see.fr D) Y L7 K.see).mono ?_; rintro e w9 ⟨v9, rfl, R, Z⟩; obtain ⟨p9, z9, aa⟩ := R.shape'; subst aa
           have L := D.trans Z
           obtain ⟨q0, q2⟩ := A.out _ L)
        | (go_at_call 30; refine (T.out y ⟨ma, MK.length, mc⟩ ⟨p5, ab.length, z5⟩ ⟨some ⟨z.heap.size, 0, none⟩, 1, 1⟩ ⟨U, ac.length, V⟩ (av.see.fr D) Y L7 K.see).mono ?_; rintro e w9 ⟨v9, rfl, R, Z⟩; obtain ⟨p9, z9, aa⟩ := R.shape'; subst aa
           have L := D.trans Z
           obtain ⟨q0, q2⟩ := A.out _ L)
        | (go_at_call 30; have hA := T.out (y.alloc (.cells #[Fk.u8 F] 5)) ⟨ma, MK.length, mc⟩ ⟨p5, ab.length, z5⟩ ⟨some ⟨y.heap.size, 0, none⟩, 1, 1⟩ ⟨U, ac.length, V⟩ (av.see.fr (D.trans (I.out y))) (Y.fr (I.out y)) (HL.out y) (K.see.fr (I.out y)); rw [dp] at hA; refine hA.mono ?_; rintro e w9 ⟨v9, rfl, R, Z⟩; obtain ⟨p9, z9, aa⟩ := R.shape'; subst aa
           have L := (D.trans (I.out y)).trans Z
           obtain ⟨q0, q2⟩ := A.out _ L)
        | (go_at_call 35; refine (HP.out _ w9 (bt.trans L) R.see).mono ?_; rintro e wa ⟨va, rfl, cl, c8⟩; obtain ⟨pa, za, c9⟩ := cl.shape'; subst c9
           have ga := L.trans c8
           have cA := cl.rebase (show w.heap.size ≤ w9.heap.size from aq bt.size L.size)
           obtain ⟨r0, r2⟩ := A.out _ ga))))
    all_goals go_wp2_with fail
    all_goals go_ret
    all_goals exact⟨_,rfl,cA,bt.trans ga⟩
theorem IU(h m:Value)(d lb:List UInt8)(W:World)(o:af W eB h d)(q:af W eB m lb)(I:d.length+lb.length<=100000000) :
  Calls Tryz.prog 30 #[.slice (some ⟨W.heap.size,0,none⟩) 2 2] (W.alloc (.cells #[h,m] 29)) fun e w'=>∃ v,e=.returned v/\Ow w' W.heap.size eB v (d++lb)/\Fr W w':=by
 obtain⟨y,rfl⟩:=kw o;obtain⟨z,rfl⟩:=kw q;have A := nE W #[y.v, z.v] 29 [y, z] [d, lb] 2 rfl rfl rfl (by simp) (fun i D A => by
  match i, D with
  | 0, _ => exact o
  | 1, _ => exact q)
 refine(By _ _ _ _ A (by simp;omega)).mono ?_;rintro e w' ⟨v,rfl,F,G⟩;exact⟨v,rfl,by simpa using F.rebase (b:=W.heap.size) (by simp),((Fr.refl W).alloc _).trans G⟩
def mh(d e:Nat)(p:Bool)(l:List am):List UInt8:=ay (gL d p e)++gn d e p l
theorem Jk(d m:Nat)(p:Bool)(h1:16<=d)(K:d<=32768)(L:1<=m)(y:m<=64)(v:Value)(l:List am)(w:World)(z:af w eR v l)(A:du l)(D:bU w) :
  Calls Tryz.prog 16 #[aK ⟨(d:Int),p,(m:Int),0,0,0⟩,v] w fun e w'=>∃ u,e=.returned (.tuple #[u,.int .i64 0])/\Ow w' w.heap.size eB u (mh d m p l)/\Fr w w':=by
 have M:dF ⟨(d:Int),p,(m:Int),0,0,0⟩=true:=(lG _).2 (by refine⟨?_,?_,?_,?_⟩ <;> simp only <;> omega);have F:=ad (fun W=>vq ⟨(d:Int),p,(m:Int),0,0,0⟩ ⟨rfl,rfl,rfl⟩ W);rw [ai M]at F;have O:=ad (fun W (h:Fr w W)=>Bu d m p 0 0 0 h1 K L y v l W (z.fr h) A (D.fr h));have b1:=rJ d m p l L y A;have Q:=ad (fun W (h:Fr w W)=>Jg d m p 0 0 0 K y W (D.fr h));have b2:(ay (gL d p m)).length<=1000:=by have n1:=aG d (by omega);have n2:=aG m (by omega);rw [fp];unfold gL dy;simp only [an,bg,fz];omega
 have HT:Hid (mh d m p l=ay (gL d p m)++gn d m p l):=rfl;obtain⟨a0,b8,rfl,_⟩:=z.shape;clear z M A D;generalize mh d m p l=TP at *;generalize gn d m p l=T at *;generalize ay (gL d p m)=R at *;have U:=ad (fun V X W (ha:af W eB V R) (hb:af W eB X T)=>IU V X R T W ha hb (by omega));rw [<- HT.out]at U;go_enter Tryz.func16, Tryz.ntmps16;go_wp2_with fail;refine(F.out _).mono ?_;rintro e w1 ⟨rfl,G⟩;have q:=G.heap (au w (.cells #[N d,.bool p,N m,.int .i64 0,.int .i64 0,.int .i64 0] 23) _ rfl);have I:Fr w w1:=((Fr.refl w).alloc _).trans G;have Y:=ae q 0 rfl;have Z:=ae q 1 rfl;have c2:=ae q 2 rfl;have c3:=ae q 3 rfl;have c4:=ae q 4 rfl;have c5:=ae q 5 rfl;go_wp2_with fail;refine(O.out _ I).mono ?_;rintro e w2 ⟨v2,rfl,aj,o⟩;have av:=I.trans o;have a1:=ad (Q.out w2 av);obtain⟨p2,z2,rfl⟩:=aj.shape';have d0:=o.cell Y;have d1:=o.cell Z;have d2:=o.cell c2;have d3:=o.cell c3;have d4:=o.cell c4;have d5:=o.cell c5;clear Y Z c2 c3 c4 c5 q I G O F;go_wp2_with fail;refine(a1.out).mono ?_;rintro e w3 ⟨v3,rfl,a2,J⟩;obtain⟨p3,z3,rfl⟩:=a2.shape';have a3:=av.trans J;have bx:=ad (U.out _ _ w3 a2.see (aj.see.fr J));clear d0 d1 d2 d3 d4 d5 a1 Q o J;go_wp2_with fail;refine(bx.out).mono ?_;rintro e w4 ⟨v4,rfl,a4,bz⟩;obtain⟨p4,z4,rfl⟩:=a4.shape';have HR:=ad (a4.rebase a3.size);go_wp2_with fail;go_ret2;exact⟨_,rfl,HR.out,a3.trans bz⟩
theorem K8(d h:Nat)(p:Bool)(h1:d<=32768)(T:h<=64)(w:World) :
  Calls Tryz.prog 44 #[N d,Fk.u8 (if p then 1 else 0),N h] w fun e w'=>∃ v,e=.returned v/\Ow w' w.heap.size eB v (ay (gL d p h))/\Fr w w':=by
 have a0:=ad (fun v q W (T:af W eB v q) (h3:q.length<=1000000)=>lQ v q W T h3);have a4:=ad (jI d (by omega));have a6:=ad (jI h (by omega));have bv:=aG d (by omega);have bx:=aG h (by omega);have bz:IntKind.u64.wrap (d:Int)=(d:Int):=aX _ (by omega);have b0:IntKind.u64.wrap (h:Int)=(h:Int):=aX _ (by omega);have o:Hid (gL d p h=dy 2++ao d++[(if p then 1 else 0)]++ao h):=rfl
 have U:Ow (w.alloc (.cells #[.int .u8 70,.int .u8 73,.int .u8 82,.int .u8 75,.int .u8 2] 5)) w.heap.size eB (.slice (some ⟨w.heap.size,0,none⟩) 5 5) (dy 2):=
  iC eB _ _ (dy 2) 5 rfl (by show 5<=maxLen;unfold maxLen;omega) (ag _) rfl
 have b1:(dy 2).length=5:=rfl;generalize dy 2=MK at *;generalize gL d p h=H at *;generalize ao d=ba at *;generalize ao h=b2 at *;generalize (if p then(1:UInt8)else 0)=V at *;have X:Fr w (w.alloc (.cells #[.int .u8 70,.int .u8 73,.int .u8 82,.int .u8 75,.int .u8 2] 5)):=(Fr.refl w).alloc _;go_enter Tryz.func44, Tryz.ntmps44;go_wp2_with fail;refine(a4.out _).mono ?_;rintro e w1 ⟨v1,rfl,Y,G⟩;have I:=U.fr G;have y:=X.trans G;clear U X G;go_wp2_with (at_builtin;refine aN eB rfl (.tmp 9) (.tmp 12) 29 rfl Tryz.underlying29 _ rfl I _ _ rfl Y.see ?c1 y.size ?_);case c1=>omega
 intro v2 w2 J;have m:=J.own;have z:Fr w w2:=J.below I y (ag _) y.size;obtain⟨Z,K⟩:∃ q,q=MK++ba:=⟨_,rfl⟩;rw [<- K]at m o;have b8:Z.length<=15:=by rw [K,an];omega
 obtain⟨a2,c2,rfl⟩:=m.shape';clear I y J Y K;go_wp2_with (at_builtin;refine aM eB rfl (.tmp 14) (.tmp 16) 29 rfl Tryz.underlying29 w.heap.size rfl m [V] _ _ _ rfl rfl rfl ?c1 z.size ?_);case c1=>simp;omega
 intro v3 w3 L;have A:=L.own;have aa:Fr w w3:=L.below m z (ag _) z.size;obtain⟨m3,M⟩:∃ q,q=Z++[V]:=⟨_,rfl⟩;rw [<- M]at A o;have bB:m3.length<=16:=by rw [M,an];simp;omega
 obtain⟨a3,c3,rfl⟩:=A.shape';clear m z L M;go_wp2_with fail;refine(a6.out _).mono ?_;rintro e w4 ⟨v4,rfl,ab,O⟩;have Q:=A.fr O;have D:=aa.trans O;clear A aa O;go_wp2_with (at_builtin;refine aN eB rfl (.tmp 18) (.tmp 21) 29 rfl Tryz.underlying29 _ rfl Q _ _ rfl ab.see ?c1 D.size ?_);case c1=>omega
 intro v5 w5 R;have F:=R.own;have aj:Fr w w5:=R.below Q D (ag _) D.size;rw [<- o.out]at F;have cc:H.length<=26:=by rw [o.out,an];omega
 have bk:=ad (a0.out v5 H w5 F.see (by omega));obtain⟨a5,c5,rfl⟩:=F.shape';clear Q D R ab F;go_wp2_with fail;refine bk.out.mono ?_;rintro e w8 ⟨v8,rfl,av,bm⟩;have HR:=ad (av.rebase aj.size);clear av;go_wp2_with fail;go_ret;exact⟨_,rfl,HR.out,aj.trans bm⟩
theorem K5(o:be)(d:gP o=false)(v:Value)(l:List am)(w:World)(h:af w eR v l) :
  Calls Tryz.prog 19 #[aK o,v] w fun e w'=>e=.returned (.tuple #[.slice none 0 0,.int .i64 9])/\Fr w w':=by
 have m:=ad (fun W=>vf o W);rw [ah (by rw [d];simp)]at m;obtain⟨y,z,rfl,_⟩:=h.shape;clear h d;obtain⟨A,D,F,G,op,I⟩:=o;go_enter Tryz.func19, Tryz.ntmps19;go_wp2_with fail;refine(m.out _).mono ?_;rintro e J ⟨rfl,q⟩;go_wp2_with fail;go_ret2;exact⟨rfl,((Fr.refl w).alloc _).trans q⟩
theorem K6(o:be)(q:gP o=true)(y:dF o=true)(v:Value)(l:List am)(w:World)(d:af w eR v l)(z:cV l=false) :
  Calls Tryz.prog 19 #[aK o,v] w fun e w'=>e=.returned (.tuple #[.slice none 0 0,.int .i64 6])/\Fr w w':=by
 have A:=ad (fun W=>vf o W);rw [ai q]at A;have F:=ad (fun W (h:Fr w W)=>AW o y v l W (d.fr h) z);obtain⟨J,K,rfl,_⟩:=d.shape;have D:Fr w (w.alloc (.cells #[.int .i64 o.b,.bool o.plain,.int .i64 o.bu,.int .i64 o.d,.int .i64 o.p,.int .i64 o.c] 23)):=(Fr.refl w).alloc _;have G:=ad (fun W (h:Fr (w.alloc (.cells #[.int .i64 o.b,.bool o.plain,.int .i64 o.bu,.int .i64 o.d,.int .i64 o.p,.int .i64 o.c] 23)) W)=>oE o h);clear d z q y;obtain⟨L,M,O,Q,op,R⟩:=o;go_enter Tryz.func19, Tryz.ntmps19;go_wp2_with fail;refine(A.out _).mono ?_;rintro e T ⟨rfl,m⟩;obtain⟨U,V,c2,X,Y,Z⟩:=G.out _ m;go_wp2_with fail;refine(F.out _ (D.trans m)).mono ?_;rintro e w2 ⟨rfl,I⟩;go_wp2_with fail;go_ret2;exact⟨rfl,D.trans (m.trans I)⟩
theorem K7 (m d : Nat) (p : Bool) (h1 : 16 ≤ m) (O : m ≤ 32768) (Q : 1 ≤ d) (A : d ≤ 64) (v : Value) (l : List am) (w : World) (D : af w eR v l) (F : du l) :
    Calls Tryz.prog 19 #[aK ⟨(m:Int),p,(d:Int),0,0,0⟩,v] w fun e w'=>∃ u,e=.returned (.tuple #[u,.int .i64 0])/\Ow w' w.heap.size eB u (mh m d p l)/\Fr w w':=by
  have R:gP ⟨(m:Int),p,(d:Int),0,0,0⟩=true:=(tK _).2 (by refine⟨?_,?_,?_,?_,rfl,rfl,rfl⟩ <;> simp only <;> omega);have U:=ad (fun W=>vf ⟨(m:Int),p,(d:Int),0,0,0⟩ W);rw [ai R]at U;have HM:=ad (fun W (h:Fr w W)=>AX m d p 0 0 0 h1 O Q A v l W (D.fr h) F);have b8:=rJ m d p l Q A F;have HH:=ad (fun W=>K8 m d p O A W);have bA:(ay (gL m p d)).length<=1000:=(by have n1:=aG m (by omega);have n2:=aG d (by omega);rw [fp];unfold gL dy;simp only [an,bg,fz];omega);have HT:Hid (mh m d p l=ay (gL m p d)++gn m d p l):=rfl;have a2:=ad (fun W=>vi p W);obtain⟨a0,cb,rfl,_⟩:=D.shape;clear D R F;generalize mh m d p l=TP at *;generalize gn m d p l=T at *;generalize ay (gL m p d)=HD at *;generalize (if p then(1:UInt8)else 0)=fl at *;go_enter Tryz.func19, Tryz.ntmps19;go_wp2_with fail;refine(U.out _).mono ?_;rintro e w1 ⟨rfl,G⟩;have o:=G.heap (au w (.cells #[N m,.bool p,N d,.int .i64 0,.int .i64 0,.int .i64 0] 23) _ rfl);have V:Fr w w1:=((Fr.refl w).alloc _).trans G;have c0:=ae o 0 rfl;have c1:=ae o 1 rfl;have c2:=ae o 2 rfl;have c3:=ae o 3 rfl;have c4:=ae o 4 rfl;have X:=ae o 5 rfl;go_wp2_with fail;refine(HM.out _ V).mono ?_;rintro e w2 ⟨u2,rfl,Y,Z⟩;have z:=Z.heap o;have I:=V.trans Z;have x0:=ae z 0 rfl;have x1:=ae z 1 rfl;have x2:=ae z 2 rfl;obtain⟨p2,z2,rfl⟩:=Y.shape';clear c0 c1 c2 c3 c4 X G o;have aa:=I.size;have bm:Hid (HD.length+T.length<=2147483648):=(by show _<=_;omega);go_upto_region 7 with fail
  go_region_held_law (fun W => W.cell? ⟨w.heap.size, 0, none⟩ = some (N m) ∧ W.cell? ⟨w.heap.size, 1, none⟩ = some (.bool p) ∧ W.cell? ⟨w.heap.size, 2, none⟩ = some (N d))
    (first | exact ⟨q0, q1, q2⟩ | exact ⟨y0, y1, y2⟩ | exact ⟨x0, x1, x2⟩ | go_keep) (((first
      | (go_at_call 42; refine (a2.out _).mono ?_; rintro e w3 ⟨rfl, rfl⟩)
      | (go_at_call 44; refine (HH.out _).mono ?_; rintro e w4 ⟨v4, rfl, ab, b1⟩
         have q := (Fr.refl w2).drew.trans b1
         have J := ab.rebase (b := w.heap.size) aa
         have b2 := Y.fr q
         have b3 : w.heap.size ≤ w4.heap.size := aq aa q.size
         have y := q.heap z
         obtain ⟨p4, z4, rfl⟩ := ab.shape'
         have y0 := ae y 0 rfl
         have y1 := ae y 1 rfl
         have y2 : w4.cell? ⟨w.heap.size, 2, none⟩ = some (N d) := by rw [aL y]; rfl)
      | (refine qx eB rfl (.tmp 29) (.tmp 30) 29 rfl Tryz.underlying29 w.heap.size rfl J _ _ rfl b2.see bm.out b3 ?_
         intro v5 w5 K
         have L := K.own
         rw [← HT.out] at L
         have M := K.chg'.heap y (J.ne_cells y (by decide))
         have q0 := ae M 0 rfl
         have q1 := ae M 1 rfl
         have q2 := ae M 2 rfl
         obtain ⟨a5, X, b4⟩ := L.shape'
         subst b4))))
  all_goals go_wp2_with fail
  all_goals go_ret2
  all_goals(rename_i hh;cases hh)
  all_goals exact⟨_,rfl,L,K.below J (I.trans q) (ag _) (I.trans q).size⟩
theorem vl(o:be)(v:Value)(l:List am)(E:Int)(R:List UInt8)(w:World)(D:af w eR v l)(F:∀ W,Fr w W->Calls Tryz.prog 18 #[aK o,v] W fun e w'=>∃ u,e=.returned (.tuple #[u,.int .i64 E])/\Ow w' W.heap.size eB u R/\Fr W w') :
  Calls Tryz.prog 8 #[.int .i64 1,aK o,v] w fun e w'=>∃ u,e=.returned (.tuple #[u,.int .i64 E])/\Ow w' w.heap.size eB u R/\Fr w w':=by
 have G:=ad F;obtain⟨L,M,rfl,_⟩:=D.shape;clear D F;obtain⟨h,m,q,y,op,z⟩:=o;have d:=au w (.cells #[.int .i64 h,.bool m,.int .i64 q,.int .i64 y,.int .i64 op,.int .i64 z] 23) w.heap.size rfl;have A:Fr w (w.alloc (.cells #[.int .i64 h,.bool m,.int .i64 q,.int .i64 y,.int .i64 op,.int .i64 z] 23)):=(Fr.refl w).alloc _;generalize O:w.alloc (.cells #[.int .i64 h,.bool m,.int .i64 q,.int .i64 y,.int .i64 op,.int .i64 z] 23)=Q at *;have T:=ae d 0 rfl;have U:=ae d 1 rfl;have c2:=ae d 2 rfl;have V:=ae d 3 rfl;have X:=ae d 4 rfl;have Y:=ae d 5 rfl;go_enter Tryz.func8, Tryz.ntmps8;go_wp2_with fail;refine(G.out _ A).mono ?_;rintro e Z ⟨u,rfl,I,J⟩;have K:=ad (I.rebase A.size);go_wp2_with fail;go_ret2;exact⟨_,rfl,K.out,A.trans J⟩
theorem vk(o:be)(v:Value)(l:List am)(E:Int)(R:List UInt8)(w:World)(D:af w eR v l)(F:∀ W,Fr w W->Calls Tryz.prog 19 #[aK o,v] W fun e w'=>∃ u,e=.returned (.tuple #[u,.int .i64 E])/\Ow w' W.heap.size eB u R/\Fr W w') :
  Calls Tryz.prog 8 #[.int .i64 2,aK o,v] w fun e w'=>∃ u,e=.returned (.tuple #[u,.int .i64 E])/\Ow w' w.heap.size eB u R/\Fr w w':=by
 have G:=ad F;obtain⟨L,M,rfl,_⟩:=D.shape;clear D F;obtain⟨h,m,q,y,op,z⟩:=o;have d:=au w (.cells #[.int .i64 h,.bool m,.int .i64 q,.int .i64 y,.int .i64 op,.int .i64 z] 23) w.heap.size rfl;have A:Fr w (w.alloc (.cells #[.int .i64 h,.bool m,.int .i64 q,.int .i64 y,.int .i64 op,.int .i64 z] 23)):=(Fr.refl w).alloc _;generalize O:w.alloc (.cells #[.int .i64 h,.bool m,.int .i64 q,.int .i64 y,.int .i64 op,.int .i64 z] 23)=Q at *;have T:=ae d 0 rfl;have U:=ae d 1 rfl;have c2:=ae d 2 rfl;have V:=ae d 3 rfl;have X:=ae d 4 rfl;have Y:=ae d 5 rfl;go_enter Tryz.func8, Tryz.ntmps8;go_wp2_with fail;refine(G.out _ A).mono ?_;rintro e Z ⟨u,rfl,I,J⟩;have K:=ad (I.rebase A.size);go_wp2_with fail;go_ret2;exact⟨_,rfl,K.out,A.trans J⟩
theorem vj(o:be)(v:Value)(l:List am)(E:Int)(R:List UInt8)(w:World)(D:af w eR v l)(F:∀ W,Fr w W->Calls Tryz.prog 20 #[aK o,v] W fun e w'=>∃ u,e=.returned (.tuple #[u,.int .i64 E])/\Ow w' W.heap.size eB u R/\Fr W w') :
  Calls Tryz.prog 8 #[.int .i64 3,aK o,v] w fun e w'=>∃ u,e=.returned (.tuple #[u,.int .i64 E])/\Ow w' w.heap.size eB u R/\Fr w w':=by
 have G:=ad F;obtain⟨L,M,rfl,_⟩:=D.shape;clear D F;obtain⟨h,m,q,y,op,z⟩:=o;have d:=au w (.cells #[.int .i64 h,.bool m,.int .i64 q,.int .i64 y,.int .i64 op,.int .i64 z] 23) w.heap.size rfl;have A:Fr w (w.alloc (.cells #[.int .i64 h,.bool m,.int .i64 q,.int .i64 y,.int .i64 op,.int .i64 z] 23)):=(Fr.refl w).alloc _;generalize O:w.alloc (.cells #[.int .i64 h,.bool m,.int .i64 q,.int .i64 y,.int .i64 op,.int .i64 z] 23)=Q at *;have T:=ae d 0 rfl;have U:=ae d 1 rfl;have c2:=ae d 2 rfl;have V:=ae d 3 rfl;have X:=ae d 4 rfl;have Y:=ae d 5 rfl;go_enter Tryz.func8, Tryz.ntmps8;go_wp2_with fail;refine(G.out _ A).mono ?_;rintro e Z ⟨u,rfl,I,J⟩;have K:=ad (I.rebase A.size);go_wp2_with fail;go_ret2;exact⟨_,rfl,K.out,A.trans J⟩
theorem K4(d:Int)(o:be)(v:Value)(l:List am)(w:World)(h:af w eR v l)(m:¬d=1)(q:¬d=2)(y:¬d=3) :
  Calls Tryz.prog 8 #[.int .i64 d,aK o,v] w fun e w'=>e=.returned (.tuple #[.slice none 0 0,.int .i64 4])/\Fr w w':=by
 obtain⟨z,A,rfl,_⟩:=h.shape;clear h;obtain⟨D,F,G,I,op,J⟩:=o;go_enter Tryz.func8, Tryz.ntmps8;go_wp2_with fail;go_ret2;exact⟨rfl,(Fr.refl w).alloc _⟩
def oY(l:List am):Bool:=decide (20<l.length) || decide ((800:Int)<jx 0 l)
def kT(v:Int)(o:be)(l:List am):Bool:=!oY l && (decide (v≠3) || (!fR o || l8 o))
theorem Bj (y : Int) (o : be) (v : Value) (l : List am) (w : World) (F : af w eR v l) :
    Calls Tryz.prog 6 #[.int .i64 y,aK o,v,.int .i64 20,.int .i64 800] w fun e w'=>e=.returned (.bool (kT y o l))/\Fr w w':=by
  have D:=ad (fun W (h:Fr w W)=>(show Calls Tryz.prog 12 #[v,.int .i64 20,.int .i64 800] W (fun e w'=>e=.returned (.bool (oY l))/\Fr W w')from Lm v l W (F.fr h) 20 800 (by omega)));have z:=ad (fun W=>rO o W);have A:=ad (fun(h:fR o=true) W=>Jz o (((mr o).1 h).2.2.1) (((mr o).1 h).2.2.2.1) W);have m:Hid (kT y o l=(!oY l && (decide (y≠3) || (!fR o || l8 o)))):=rfl;obtain⟨a0,a4,rfl,_⟩:=F.shape;clear F;generalize kT y o l=R at *;generalize oY l=g at *;have q:Fr w (w.alloc (.cells #[.int .i64 o.b,.bool o.plain,.int .i64 o.bu,.int .i64 o.d,.int .i64 o.p,.int .i64 o.c] 23)):=(Fr.refl w).alloc _;have G:=ad (fun W (h:Fr (w.alloc (.cells #[.int .i64 o.b,.bool o.plain,.int .i64 o.bu,.int .i64 o.d,.int .i64 o.p,.int .i64 o.c] 23)) W)=>oE o h);generalize Z:fR o=o3 at *;have aj:=ad Z;clear Z;generalize l8 o=sm at *
  cases g with
  | true=>obtain rfl:R=false:=(by rw [m.out];rfl);clear m z A;obtain⟨I,J,K,L,op,M⟩:=o;go_enter Tryz.func6, Tryz.ntmps6;go_wp2_with fail;refine(D.out _ q).mono ?_;rintro e O ⟨rfl,d⟩;go_wp2_with fail;go_ret;exact⟨rfl,q.trans d⟩
  | false=>
    by_cases aa:y=3
    · subst aa
      cases o3 with
      | false=>obtain rfl:R=true:=(by rw [m.out];rfl);rw [ah (by simp)]at z;clear m A;obtain⟨I,J,K,L,op,M⟩:=o;go_enter Tryz.func6, Tryz.ntmps6;go_wp2_with fail;refine(D.out _ q).mono ?_;rintro e O ⟨rfl,d⟩;obtain⟨Q,T,c2,U,V,X⟩:=G.out _ d;go_wp2_with fail;refine(z.out _).mono ?_;rintro e w2 ⟨rfl,Y⟩;go_wp2_with fail;go_ret;exact⟨rfl,q.trans (d.trans Y)⟩
      | true=>obtain rfl:R=sm:=(by rw [m.out];simp);rw [ai rfl]at z;have a1:=ad (A.out rfl);clear m A aj;obtain⟨I,J,K,L,op,M⟩:=o;go_enter Tryz.func6, Tryz.ntmps6;go_wp2_with fail;refine(D.out _ q).mono ?_;rintro e O ⟨rfl,d⟩;obtain⟨Q,T,c2,U,V,X⟩:=G.out _ d;go_wp2_with fail;refine(z.out _).mono ?_;rintro e w2 ⟨rfl,Y⟩;have g2:=d.trans Y;clear Q T c2 U V X;obtain⟨Q,T,c2,U,V,X⟩:=G.out _ g2;go_wp2_with fail;refine(a1.out _).mono ?_;rintro e w3 ⟨rfl,a2⟩;go_wp2_with fail;go_ret;exact⟨rfl,q.trans (g2.trans a2)⟩
    · obtain rfl:R=true:=(by rw [m.out];simp [aa]);clear m A z;obtain⟨I,J,K,L,op,M⟩:=o;go_enter Tryz.func6, Tryz.ntmps6;go_wp2_with fail;refine(D.out _ q).mono ?_;rintro e O ⟨rfl,d⟩;go_wp2_with fail;go_ret;exact⟨rfl,q.trans d⟩
theorem vF(o:be)(v:Value)(l:List am)(E:Int)(R:List UInt8)(w:World)(D:af w eR v l)(F:∀ W,Fr w W->Calls Tryz.prog 15 #[aK o,v] W fun e w'=>∃ u,e=.returned (.tuple #[u,.int .i64 E])/\Ow w' W.heap.size eB u R/\Fr W w') :
  Calls Tryz.prog 7 #[.int .i64 1,aK o,v] w fun e w'=>∃ u,e=.returned (.tuple #[u,.int .i64 E])/\Ow w' w.heap.size eB u R/\Fr w w':=by
 have G:=ad F;obtain⟨L,M,rfl,_⟩:=D.shape;clear D F;obtain⟨h,m,q,y,op,z⟩:=o;have d:=au w (.cells #[.int .i64 h,.bool m,.int .i64 q,.int .i64 y,.int .i64 op,.int .i64 z] 23) w.heap.size rfl;have A:Fr w (w.alloc (.cells #[.int .i64 h,.bool m,.int .i64 q,.int .i64 y,.int .i64 op,.int .i64 z] 23)):=(Fr.refl w).alloc _;generalize O:w.alloc (.cells #[.int .i64 h,.bool m,.int .i64 q,.int .i64 y,.int .i64 op,.int .i64 z] 23)=Q at *;have T:=ae d 0 rfl;have U:=ae d 1 rfl;have c2:=ae d 2 rfl;have V:=ae d 3 rfl;have X:=ae d 4 rfl;have Y:=ae d 5 rfl;go_enter Tryz.func7, Tryz.ntmps7;go_wp2_with fail;refine(G.out _ A).mono ?_;rintro e Z ⟨u,rfl,I,J⟩;have K:=ad (I.rebase A.size);go_wp2_with fail;go_ret2;exact⟨_,rfl,K.out,A.trans J⟩
theorem vE(o:be)(v:Value)(l:List am)(E:Int)(R:List UInt8)(w:World)(D:af w eR v l)(F:∀ W,Fr w W->Calls Tryz.prog 16 #[aK o,v] W fun e w'=>∃ u,e=.returned (.tuple #[u,.int .i64 E])/\Ow w' W.heap.size eB u R/\Fr W w') :
  Calls Tryz.prog 7 #[.int .i64 2,aK o,v] w fun e w'=>∃ u,e=.returned (.tuple #[u,.int .i64 E])/\Ow w' w.heap.size eB u R/\Fr w w':=by
 have G:=ad F;obtain⟨L,M,rfl,_⟩:=D.shape;clear D F;obtain⟨h,m,q,y,op,z⟩:=o;have d:=au w (.cells #[.int .i64 h,.bool m,.int .i64 q,.int .i64 y,.int .i64 op,.int .i64 z] 23) w.heap.size rfl;have A:Fr w (w.alloc (.cells #[.int .i64 h,.bool m,.int .i64 q,.int .i64 y,.int .i64 op,.int .i64 z] 23)):=(Fr.refl w).alloc _;generalize O:w.alloc (.cells #[.int .i64 h,.bool m,.int .i64 q,.int .i64 y,.int .i64 op,.int .i64 z] 23)=Q at *;have T:=ae d 0 rfl;have U:=ae d 1 rfl;have c2:=ae d 2 rfl;have V:=ae d 3 rfl;have X:=ae d 4 rfl;have Y:=ae d 5 rfl;go_enter Tryz.func7, Tryz.ntmps7;go_wp2_with fail;refine(G.out _ A).mono ?_;rintro e Z ⟨u,rfl,I,J⟩;have K:=ad (I.rebase A.size);go_wp2_with fail;go_ret2;exact⟨_,rfl,K.out,A.trans J⟩
theorem vD(o:be)(v:Value)(l:List am)(E:Int)(R:List UInt8)(w:World)(D:af w eR v l)(F:∀ W,Fr w W->Calls Tryz.prog 17 #[aK o,v] W fun e w'=>∃ u,e=.returned (.tuple #[u,.int .i64 E])/\Ow w' W.heap.size eB u R/\Fr W w') :
  Calls Tryz.prog 7 #[.int .i64 3,aK o,v] w fun e w'=>∃ u,e=.returned (.tuple #[u,.int .i64 E])/\Ow w' w.heap.size eB u R/\Fr w w':=by
 have G:=ad F;obtain⟨L,M,rfl,_⟩:=D.shape;clear D F;obtain⟨h,m,q,y,op,z⟩:=o;have d:=au w (.cells #[.int .i64 h,.bool m,.int .i64 q,.int .i64 y,.int .i64 op,.int .i64 z] 23) w.heap.size rfl;have A:Fr w (w.alloc (.cells #[.int .i64 h,.bool m,.int .i64 q,.int .i64 y,.int .i64 op,.int .i64 z] 23)):=(Fr.refl w).alloc _;generalize O:w.alloc (.cells #[.int .i64 h,.bool m,.int .i64 q,.int .i64 y,.int .i64 op,.int .i64 z] 23)=Q at *;have T:=ae d 0 rfl;have U:=ae d 1 rfl;have c2:=ae d 2 rfl;have V:=ae d 3 rfl;have X:=ae d 4 rfl;have Y:=ae d 5 rfl;go_enter Tryz.func7, Tryz.ntmps7;go_wp2_with fail;refine(G.out _ A).mono ?_;rintro e Z ⟨u,rfl,I,J⟩;have K:=ad (I.rebase A.size);go_wp2_with fail;go_ret2;exact⟨_,rfl,K.out,A.trans J⟩
theorem LA(d:Int)(o:be)(v:Value)(l:List am)(w:World)(h:af w eR v l)(m:¬d=1)(q:¬d=2)(y:¬d=3) :
  Calls Tryz.prog 7 #[.int .i64 d,aK o,v] w fun e w'=>e=.returned (.tuple #[.slice none 0 0,.int .i64 4])/\Fr w w':=by
 obtain⟨z,A,rfl,_⟩:=h.shape;clear h;obtain⟨D,F,G,I,op,J⟩:=o;go_enter Tryz.func7, Tryz.ntmps7;go_wp2_with fail;go_ret2;exact⟨rfl,(Fr.refl w).alloc _⟩
theorem LB(q:Int)(o:be)(v:Value)(l:List am)(w:World)(d:af w eR v l)(z:bU w)(A:cV l=true)(D:kT q o l=false) :
  Calls Tryz.prog 3 #[.int .i64 q,aK o,v] w fun e w'=>e=.returned (.bool true)/\Fr w w':=by
 have J:=ad (fun W (h:Fr w W)=>uR W (z.fr h));have F:=ad (fun W (h:Fr w W)=>mF v l W (d.fr h));rw [ai A]at F;have G:=ad (fun W (h:Fr w W)=>Bj q o v l W (d.fr h));rw [D]at G;clear A D;obtain⟨O,Q,rfl,_⟩:=d.shape;have m:Fr w (w.alloc (.cells #[.int .i64 o.b,.bool o.plain,.int .i64 o.bu,.int .i64 o.d,.int .i64 o.p,.int .i64 o.c] 23)):=(Fr.refl w).alloc _;have K:=ad (fun W (h:Fr (w.alloc (.cells #[.int .i64 o.b,.bool o.plain,.int .i64 o.bu,.int .i64 o.d,.int .i64 o.p,.int .i64 o.c] 23)) W)=>oE o h);clear d z;obtain⟨R,T,U,V,op,X⟩:=o;go_enter Tryz.func3, Tryz.ntmps3;go_wp2_with fail;refine(J.out _ m).mono ?_;rintro e Y ⟨rfl,I⟩;go_wp2_with fail;refine(F.out _ (m.trans I)).mono ?_;rintro e Z ⟨rfl,L⟩;have y:=I.trans L;obtain⟨c0,c1,c2,c3,c4,c5⟩:=K.out _ y;go_wp2_with fail;refine(G.out _ (m.trans y)).mono ?_;rintro e w4 ⟨rfl,M⟩;go_wp2_with fail;go_ret;exact⟨rfl,m.trans (y.trans M)⟩
theorem LC(q:Int)(o:be)(v:Value)(l:List am)(w:World)(y:af w eR v l)(K:bU w)(L:cV l=false)(E:Int)(d:List UInt8)(M:∀ W,Fr w W->Calls Tryz.prog 7 #[.int .i64 q,aK o,v] W fun e w'=>∃ u,e=.returned (.tuple #[u,.int .i64 E])/\af w' eB u d/\Fr W w')(O:∀ W,Fr w W->Calls Tryz.prog 8 #[.int .i64 q,aK o,v] W fun e w'=>∃ u,e=.returned (.tuple #[u,.int .i64 E])/\af w' eB u d/\Fr W w') :
  Calls Tryz.prog 3 #[.int .i64 q,aK o,v] w fun e w'=>e=.returned (.bool true)/\Fr w w':=by
 have Z:=ad (fun W (h:Fr w W)=>uR W (K.fr h));have Q:=ad (fun W (h:Fr w W)=>mF v l W (y.fr h));rw [ah (by rw [L];simp)]at Q;have HP:=ad M;have HR:=ad O;clear L M O;obtain⟨a0,a3,rfl,_⟩:=y.shape;have m:Fr w (w.alloc (.cells #[.int .i64 o.b,.bool o.plain,.int .i64 o.bu,.int .i64 o.d,.int .i64 o.p,.int .i64 o.c] 23)):=(Fr.refl w).alloc _;have R:=ad (fun W (h:Fr (w.alloc (.cells #[.int .i64 o.b,.bool o.plain,.int .i64 o.bu,.int .i64 o.d,.int .i64 o.p,.int .i64 o.c] 23)) W)=>oE o h);clear y K;obtain⟨ob,a5,a6,od,op,oc⟩:=o;go_enter Tryz.func3, Tryz.ntmps3;go_wp2_with fail;refine(Z.out _ m).mono ?_;rintro e w1 ⟨rfl,T⟩;go_wp2_with fail;refine(Q.out _ (m.trans T)).mono ?_;rintro e w3 ⟨rfl,ac⟩;have z:=T.trans ac;obtain⟨A,D,c2,F,G,I⟩:=R.out _ z;go_wp2_with fail;refine(HP.out _ (m.trans z)).mono ?_;rintro e w7 ⟨u7,rfl,U,aj⟩;have J:=z.trans aj;obtain⟨p7,z7,rfl,_⟩:=U.shape;clear A D c2 F G I;obtain⟨A,D,c2,F,G,I⟩:=R.out _ J;go_wp2_with fail;refine(HR.out _ (m.trans J)).mono ?_;rintro e w8 ⟨bn,rfl,V,X⟩;have g8:=J.trans X;have Y:=ad (AQ _ _ d d w8 (U.fr X) V);rw [show decide (d=d)=true from bs rfl]at Y;obtain⟨p8,z8,rfl,_⟩:=V.shape;clear A D c2 F G I;go_wp2_with fail;refine Y.out.mono ?_;rintro e w9 ⟨rfl,rfl⟩;go_wp2_with fail;go_ret;exact⟨rfl,m.trans g8⟩
theorem LD(q:Int)(o:be)(v:Value)(l:List am)(w:World)(G:af w eR v l)(M:bU w)(O:cV l=true)(Q:kT q o l=true)(E:Int)(d:List UInt8)(R:∀ W,Fr w W->Calls Tryz.prog 7 #[.int .i64 q,aK o,v] W fun e w'=>∃ u,e=.returned (.tuple #[u,.int .i64 E])/\af w' eB u d/\Fr W w')(T:∀ W,Fr w W->Calls Tryz.prog 8 #[.int .i64 q,aK o,v] W fun e w'=>∃ u,e=.returned (.tuple #[u,.int .i64 E])/\af w' eB u d/\Fr W w') :
  Calls Tryz.prog 3 #[.int .i64 q,aK o,v] w fun e w'=>e=.returned (.bool true)/\Fr w w':=by
 have HA:=ad (fun W (h:Fr w W)=>uR W (M.fr h));have U:=ad (fun W (h:Fr w W)=>mF v l W (G.fr h));rw [ai O]at U;have V:=ad (fun W (h:Fr w W)=>Bj q o v l W (G.fr h));rw [Q]at V;have HP:=ad R;have HR:=ad T;clear O Q R T;obtain⟨a0,a7,rfl,_⟩:=G.shape;have m:Fr w (w.alloc (.cells #[.int .i64 o.b,.bool o.plain,.int .i64 o.bu,.int .i64 o.d,.int .i64 o.p,.int .i64 o.c] 23)):=(Fr.refl w).alloc _;have I:=ad (fun W (h:Fr (w.alloc (.cells #[.int .i64 o.b,.bool o.plain,.int .i64 o.bu,.int .i64 o.d,.int .i64 o.p,.int .i64 o.c] 23)) W)=>oE o h);clear G M;obtain⟨ob,bb,bc,od,op,oc⟩:=o;go_enter Tryz.func3, Tryz.ntmps3;go_wp2_with fail;refine(HA.out _ m).mono ?_;rintro e w1 ⟨rfl,X⟩;go_wp2_with fail;refine(U.out _ (m.trans X)).mono ?_;rintro e w3 ⟨rfl,a1⟩;have J:=X.trans a1;obtain⟨y,z,c2,A,D,F⟩:=I.out _ J;go_wp2_with fail;refine(V.out _ (m.trans J)).mono ?_;rintro e w4 ⟨rfl,a2⟩;have K:=J.trans a2;clear y z c2 A D F;obtain⟨y,z,c2,A,D,F⟩:=I.out _ K;go_wp2_with fail;refine(HP.out _ (m.trans K)).mono ?_;rintro e w7 ⟨u7,rfl,Y,a3⟩;have L:=K.trans a3;obtain⟨p7,z7,rfl,_⟩:=Y.shape;clear y z c2 A D F;obtain⟨y,z,c2,A,D,F⟩:=I.out _ L;go_wp2_with fail;refine(HR.out _ (m.trans L)).mono ?_;rintro e w8 ⟨bx,rfl,Z,aa⟩;have g8:=L.trans aa;have HS:=ad (AQ _ _ d d w8 (Y.fr aa) Z);rw [show decide (d=d)=true from bs rfl]at HS;obtain⟨p8,z8,rfl,_⟩:=Z.shape;clear y z c2 A D F;go_wp2_with fail;refine HS.out.mono ?_;rintro e w9 ⟨rfl,rfl⟩;go_wp2_with fail;go_ret;exact⟨rfl,m.trans g8⟩
theorem Ap(K:Int)(o:be)(v:Value)(l:List am)(w:World)(m:af w eR v l)(U:bU w)(A:cV l=false\/kT K o l=true) :
  ∃ (E:Int) (AR:List UInt8),(∀ W,Fr w W->Calls Tryz.prog 7 #[.int .i64 K,aK o,v] W fun e w'=>∃ u,e=.returned (.tuple #[u,.int .i64 E])/\af w' eB u AR/\Fr W w')/\(∀ W,Fr w W->Calls Tryz.prog 8 #[.int .i64 K,aK o,v] W fun e w'=>∃ u,e=.returned (.tuple #[u,.int .i64 E])/\af w' eB u AR/\Fr W w'):=by
 have V:cV l=true->du l:=fun h=>by
  rcases A with A | A;· rw [h]at A;cases A
  · unfold kT at A;rw [f8]at A;exact Dr (by simpa [oY] using A.1)
 by_cases X:K=1
 · subst X;by_cases F:gQ o=true
   · by_cases J:cV l=true
     · have sm:=V J;have D:=(tL o).1 F;obtain⟨Q,G,T,Y,op,Z⟩:=o;simp only at D;obtain⟨k1,k2,rfl,rfl,rfl,rfl⟩:=D;obtain⟨I,rfl⟩:=mR (show 0<=Q by omega)
       exact ⟨0, kQ I G l, fun W h => (vF _ v l 0 _ W (m.fr h) (fun z y => Bg I G (by omega) (by omega) v l z (m.fr (h.trans y)) sm (U.fr (h.trans y)))).mono fun e w' ⟨u, a, b, c⟩ => ⟨u, a, b.see, c⟩,
        fun W h => (vl _ v l 0 _ W (m.fr h) (fun z y => KB I G (by omega) (by omega) v l z (m.fr (h.trans y)) sm)).mono fun e w' ⟨u, a, b, c⟩ => ⟨u, a, b.see, c⟩⟩
     · have L:cV l=false:=by simpa using J
       exact ⟨6, [], fun W h => (vF _ v l 6 [] W (m.fr h) (fun z y => (KN o F v l z (m.fr (h.trans y)) L).mono fun e w' ⟨a, c⟩ => ⟨_, a, Ow.nil, c⟩)).mono fun e w' ⟨u, a, b, c⟩ => ⟨u, a, b.see, c⟩,
        fun W h => (vl _ v l 6 [] W (m.fr h) (fun z y => (KA o F v l z (m.fr (h.trans y)) L).mono fun e w' ⟨a, c⟩ => ⟨_, a, Ow.nil, c⟩)).mono fun e w' ⟨u, a, b, c⟩ => ⟨u, a, b.see, c⟩⟩
   · have M:gQ o=false:=by simpa using F
     exact ⟨9, [], fun W h => (vF _ v l 9 [] W (m.fr h) (fun z y => (KM o M v l z (m.fr (h.trans y))).mono fun e w' ⟨a, c⟩ => ⟨_, a, Ow.nil, c⟩)).mono fun e w' ⟨u, a, b, c⟩ => ⟨u, a, b.see, c⟩,
      fun W h => (vl _ v l 9 [] W (m.fr h) (fun z y => (K9 o M v l z (m.fr (h.trans y))).mono fun e w' ⟨a, c⟩ => ⟨_, a, Ow.nil, c⟩)).mono fun e w' ⟨u, a, b, c⟩ => ⟨u, a, b.see, c⟩⟩
 by_cases v2:K=2
 · subst v2;by_cases F:gP o=true
   · have D:=(tK o).1 F;have R:dF o=true:=(lG o).2 ⟨D.1,D.2.1,D.2.2.1,D.2.2.2.1⟩;by_cases J:cV l=true
     · have sm:=V J;obtain⟨Q,G,T,Y,op,Z⟩:=o;simp only at D;obtain⟨k1,k2,k3,k4,rfl,rfl,rfl⟩:=D;obtain⟨I,rfl⟩:=mR (show 0<=Q by omega);obtain⟨O,rfl⟩:=mR (show 0<=T by omega)
       exact ⟨0, mh I O G l, fun W h => (vE _ v l 0 _ W (m.fr h) (fun z y => Jk I O G (by omega) (by omega) (by omega) (by omega) v l z (m.fr (h.trans y)) sm (U.fr (h.trans y)))).mono fun e w' ⟨u, a, b, c⟩ => ⟨u, a, b.see, c⟩,
        fun W h => (vk _ v l 0 _ W (m.fr h) (fun z y => K7 I O G (by omega) (by omega) (by omega) (by omega) v l z (m.fr (h.trans y)) sm)).mono fun e w' ⟨u, a, b, c⟩ => ⟨u, a, b.see, c⟩⟩
     · have L:cV l=false:=by simpa using J
       exact ⟨6, [], fun W h => (vE _ v l 6 [] W (m.fr h) (fun z y => (Jj o F R v l z (m.fr (h.trans y)) L).mono fun e w' ⟨a, c⟩ => ⟨_, a, Ow.nil, c⟩)).mono fun e w' ⟨u, a, b, c⟩ => ⟨u, a, b.see, c⟩,
        fun W h => (vk _ v l 6 [] W (m.fr h) (fun z y => (K6 o F R v l z (m.fr (h.trans y)) L).mono fun e w' ⟨a, c⟩ => ⟨_, a, Ow.nil, c⟩)).mono fun e w' ⟨u, a, b, c⟩ => ⟨u, a, b.see, c⟩⟩
   · have M:gP o=false:=by simpa using F
     exact ⟨9, [], fun W h => (vE _ v l 9 [] W (m.fr h) (fun z y => (Ji o M v l z (m.fr (h.trans y))).mono fun e w' ⟨a, c⟩ => ⟨_, a, Ow.nil, c⟩)).mono fun e w' ⟨u, a, b, c⟩ => ⟨u, a, b.see, c⟩,
      fun W h => (vk _ v l 9 [] W (m.fr h) (fun z y => (K5 o M v l z (m.fr (h.trans y))).mono fun e w' ⟨a, c⟩ => ⟨_, a, Ow.nil, c⟩)).mono fun e w' ⟨u, a, b, c⟩ => ⟨u, a, b.see, c⟩⟩
 by_cases v3:K=3
 · subst v3;by_cases F:fR o=true
   · have D:=(mr o).1 F;have R:dF o=true:=(lG o).2 ⟨D.1,D.2.1,D.2.2.2.2.2.2.2.2.1,D.2.2.2.2.2.2.2.2.2⟩;by_cases J:cV l=true
     · have sm:=V J;have hm:l8 o=true:=by
        rcases A with A | A;· rw [J]at A;cases A
        · unfold kT at A;rw [F]at A;simp only [f8]at A;simpa using A.2
       obtain⟨Q,G,T,Y,op,Z⟩:=o;simp only [l8,f8,fi]at hm;simp only at D;obtain⟨m1,m2,m3,m4,m5⟩:=hm;obtain⟨k1,k2,k3,k4,k5,k6,k7,k8,k9,bd⟩:=D;obtain⟨I,rfl⟩:=mR (show 0<=Q by omega);obtain⟨O,rfl⟩:=mR (show 0<=T by omega);obtain⟨d,rfl⟩:=mR (show 0<=Y by omega);obtain⟨q,rfl⟩:=mR k5;obtain⟨c,rfl⟩:=mR (show 0<=Z by omega)
       exact ⟨0, lj I G O d q c (gn I O G l), fun W h => (vD _ v l 0 _ W (m.fr h) (fun z y => KJ I O d q c G (by omega) (by omega) (by omega) (by omega) (by omega) (by omega) (by omega) (by omega) (by omega) (by omega) v l z (m.fr (h.trans y)) sm (U.fr (h.trans y)))).mono fun e w' ⟨u, a, b, c⟩ => ⟨u, a, b.see, c⟩,
        fun W h => (vj _ v l 0 _ W (m.fr h) (fun z y => J4 I O d q c G (by omega) (by omega) (by omega) (by omega) (by omega) (by omega) (by omega) (by omega) (by omega) (by omega) v l z (m.fr (h.trans y)) sm)).mono fun e w' ⟨u, a, b, c⟩ => ⟨u, a, b.see, c⟩⟩
     · have L:cV l=false:=by simpa using J
       exact ⟨6, [], fun W h => (vD _ v l 6 [] W (m.fr h) (fun z y => (KI o F R v l z (m.fr (h.trans y)) L).mono fun e w' ⟨a, c⟩ => ⟨_, a, Ow.nil, c⟩)).mono fun e w' ⟨u, a, b, c⟩ => ⟨u, a, b.see, c⟩,
        fun W h => (vj _ v l 6 [] W (m.fr h) (fun z y => (J3 o F R v l z (m.fr (h.trans y)) L).mono fun e w' ⟨a, c⟩ => ⟨_, a, Ow.nil, c⟩)).mono fun e w' ⟨u, a, b, c⟩ => ⟨u, a, b.see, c⟩⟩
   · have M:fR o=false:=by simpa using F
     exact ⟨9, [], fun W h => (vD _ v l 9 [] W (m.fr h) (fun z y => (KH o M v l z (m.fr (h.trans y))).mono fun e w' ⟨a, c⟩ => ⟨_, a, Ow.nil, c⟩)).mono fun e w' ⟨u, a, b, c⟩ => ⟨u, a, b.see, c⟩,
      fun W h => (vj _ v l 9 [] W (m.fr h) (fun z y => (J2 o M v l z (m.fr (h.trans y))).mono fun e w' ⟨a, c⟩ => ⟨_, a, Ow.nil, c⟩)).mono fun e w' ⟨u, a, b, c⟩ => ⟨u, a, b.see, c⟩⟩
 exact ⟨4, [], fun W h => (LA K o v l W (m.fr h) X v2 v3).mono fun e w' ⟨a, c⟩ => ⟨_, a, af.nil, c⟩,
  fun W h => (K4 K o v l W (m.fr h) X v2 v3).mono fun e w' ⟨a, c⟩ => ⟨_, a, af.nil, c⟩⟩
theorem L5(d:Int)(o:be)(v:Value)(l:List am)(w:World)(h:bU w)(m:af w eR v l) :
  Calls Tryz.prog 3 #[.int .i64 d,aK o,v] w fun e w'=>e=.returned (.bool true)/\Fr w w':=by
 by_cases q:cV l=true
 · by_cases y:kT d o l=true;· obtain⟨E,z,A,D⟩:=Ap d o v l w m h (.inr y);exact LD d o v l w m h q y E z A D
   · exact LB d o v l w m h q (by simpa using y)
 · have F:cV l=false:=(by simpa using q);obtain⟨E,z,A,D⟩:=Ap d o v l w m h (.inl F);exact LC d o v l w m h F E z A D
end Go.Proofs.YtdamnfpigajmoaaGreatDoor
