/- Parts of the proof of ArchPacks: T1 T2. -/
import Derived.Test.YtdamnfpigajmoaaGreatDoorM34
import Derived.Lib.SmallJoins
import Derived.Test.YtdamnfpigajmoaaGreatDoorM14
import Derived.Test.YtdamnfpigajmoaaGreatDoorM12
import Derived.Test.YtdamnfpigajmoaaGreatDoorM04
set_option linter.unusedVariables false
set_option linter.unusedSectionVars false
set_option linter.unusedSimpArgs false
set_option maxHeartbeats 8000000
set_option maxRecDepth 100000
namespace Go.Proofs.YtdamnfpigajmoaaGreatDoor
open Go.RowKit Go.Fk
theorem jy(a b m:Nat)(d:a*b<=m)(e:m<9223372036854775808):IntKind.i64.wrap ((a:Int)*(b:Int))=((a*b:Nat):Int):=by
 rw [oxQb];exact ar _ (by rw [<- oxQb];omega)
abbrev qB(k m c:Nat):Value:=.agg #[N k,N m,N c]
theorem xM(k m c:Nat)(d:k<=255)(h:c<=4096)(w:World):Calls Tryz.prog 69 #[qB k m c] w fun e w'=>e=.returned (N (k*c))/\Fr w w':=by
 have o:k*c<=255*4096:=b7 d h;have q:=jy k c _ o (by omega);generalize k*c=z at *;go_enter Tryz.func69, Tryz.ntmps69;go_wp2_with fail;go_ret;exact⟨rfl,(Fr.refl w).alloc _⟩
theorem Dw(k m c:Nat)(d:k+m<=255)(q:c<=4096)(w:World):Calls Tryz.prog 111 #[qB k m c] w fun e w'=>e=.returned (N ((k+m)*(c+4)))/\Fr w w':=by
 have h:(k+m)*(c+4)<=255*4100:=b7 d (by omega);have o:=jy (k+m) (c+4) _ h (by omega);have y:(0:Int)<=k:=by omega
 have A:(k:Int)<=255:=by omega
 have k3:(0:Int)<=m:=by omega
 have D:(m:Int)<=255:=by omega
 have F:(c:Int)<=4096:=by omega
 have G:(0:Int)<=c:=by omega
 rw [show((k+m:Nat):Int)=(k:Int)+m by omega,show((c+4:Nat):Int)=(c:Int)+4 by omega]at o;generalize (k+m)*(c+4)=z at *;go_enter Tryz.func111, Tryz.ntmps111;go_wp2_with fail;go_ret;exact⟨rfl,(Fr.refl w).alloc _⟩
def bG(k c n:Nat):Nat:=(n+k*c - 1) / (k*c)
theorem xB(k m c n:Nat)(I:1<=k)(o:1<=c)(A:k<=255)(D:c<=4096)(U:n<=8388608)(w:World):Calls Tryz.prog 68 #[qB k m c,N n] w fun e w'=>e=.returned (N (bG k c n))/\Fr w w':=by
  have V:k*c<=255*4096:=b7 A D;have X:1*1<=k*c:=b7 I o;have F:=ad (xM k m c A D);unfold bG;generalize k*c=z at *;have Y:(1:Int)<=z:=(by omega);have Z:IntKind.i64.wrap ((n:Int)+z)=(n:Int)+z:=ar _ (by omega);have aa:IntKind.i64.wrap ((n:Int)+z - 1)=(n:Int)+z - 1:=ar _ (by omega);have ab:((n:Int)+z - 1).tdiv z=(((n+z - 1) / z:Nat):Int):=(by rw [show(n:Int)+z - 1=((n+z - 1:Nat):Int) by omega,Int.tdiv_eq_ediv_of_nonneg (by omega)];simp);have hq:(n+z - 1) / z<=8388608+255*4096:=aq (jO _ _) (by omega);generalize (n+z - 1) / z=q at *;have aj:IntKind.i64.wrap (q:Int)=q:=ar _ (by omega);have av:¬(z:Int)=0:=(by omega);have J:¬z=0:=(by omega);have a3:z≠0:=J;go_enter Tryz.func68, Tryz.ntmps68;go_wp2_with fail;generalize y:w.alloc (.cells #[N k,N m,N c] 107)=W;have G:Fr w W:=(by rw [<- y];exact(Fr.refl w).alloc _);have o:W.cell? ⟨w.heap.size,0,none⟩=some (N k)/\W.cell? ⟨w.heap.size,1,none⟩=some (N m)/\W.cell? ⟨w.heap.size,2,none⟩=some (N c):=(by rw [<- y];refine⟨?_,?_,?_⟩ <;> rw [vG _ _ _ _ rfl] <;> rfl);obtain⟨K,L,M⟩:=o;have O:=ad G;clear y G
  go_region_held3 (fun w' => w'.cell? ⟨w.heap.size, 0, none⟩ = some (N k) ∧ w'.cell? ⟨w.heap.size, 1, none⟩ = some (N m) ∧ w'.cell? ⟨w.heap.size, 2, none⟩ = some (N c))
    (first | go_keep)
    ((first
      | (go_at_call 69; refine (F.out _).mono ?_; rintro e w1 ⟨rfl, d⟩; have Q := d.cell K; have R := d.cell L; have T := d.cell M)
      | (go_at_call 69; refine (F.out _).mono ?_; rintro e w2 ⟨rfl, h⟩; have d0 := h.cell Q; have d1 := h.cell R; have d2 := h.cell T)))
  go_wp2_with fail;go_ret;exact⟨rfl,((O.out.trans (Fr.drew (Fr.refl _))).trans d).trans h⟩
theorem Dp(k m c n:Nat)(o:1<=k)(q:k+m<=255)(y:1<=c)(z:c<=4096)(w:World):Calls Tryz.prog 110 #[qB k m c,N n] w fun e w'=>e=.returned (.bool (decide (n<=8388608)))/\Fr w w':=by
 have A:(1:Int)<=k:=by omega
 have D:(0:Int)<=m:=by omega
 have k3:(k:Int)<=255:=by omega
 have F:(m:Int)<=255 - k:=by omega
 have G:(1:Int)<=c:=by omega
 have I:(c:Int)<=4096:=by omega
 have J:(0:Int)<=n:=by omega
 have K:IntKind.i64.wrap (255 - (k:Int))=255 - k:=ar _ (by omega);by_cases h:n<=8388608;· rw [bs h];have d:(n:Int)<=8388608:=(by omega);go_enter Tryz.func110, Tryz.ntmps110;go_wp2_with fail;go_ret;exact⟨rfl,(Fr.refl w).alloc _⟩
 · rw [bi h];have d:¬(n:Int)<=8388608:=(by omega);go_enter Tryz.func110, Tryz.ntmps110;go_wp2_with fail;go_ret;exact⟨rfl,(Fr.refl w).alloc _⟩
def lA(k m c n:Nat):Value:=
 if n<=8388608 then(if bG k c n*((k+m)*(c+4))<=16777216 then .tuple #[N (bG k c n*((k+m)*(c+4))),.int .i64 0]else .tuple #[.int .i64 0,.int .i64 6])else .tuple #[.int .i64 0,.int .i64 13]
theorem qA(k m c n:Nat):(n<=8388608->(bG k c n*((k+m)*(c+4))<=16777216->lA k m c n=.tuple #[N (bG k c n*((k+m)*(c+4))),.int .i64 0])/\(¬bG k c n*((k+m)*(c+4))<=16777216->lA k m c n=.tuple #[.int .i64 0,.int .i64 6]))/\(¬n<=8388608->lA k m c n=.tuple #[.int .i64 0,.int .i64 13]):=by
 unfold lA;refine⟨fun h=>⟨fun d=>by rw [ai h,ai d],fun d=>by rw [ai h,ah d]⟩,fun h=>by rw [ah h]⟩
theorem xz(k c n:Nat)(d:k<=255)(e:c<=4096)(h:n<=8388608):bG k c n<=9433088:=by
 have m:k*c<=255*4096:=b7 d e;unfold bG;exact aq (jO _ _) (by omega)
theorem Jl(k m c n:Nat)(O:1<=k)(G:k+m<=255)(Q:1<=c)(D:c<=4096)(w:World):Calls Tryz.prog 67 #[N k,N m,N c,N n] w fun e w'=>e=.returned (lA k m c n)/\Fr w w':=by
 have HM:=ad (Dp k m c n O G Q D);have I:=ad (qA k m c n);generalize lA k m c n=R at *;have J:=au w (.cells #[.int .i64 0,.int .i64 0,.int .i64 0] 107) _ rfl;have T:(Tryz.prog.info? 107).map (·.size)=some 3:=by kernel_rfl
 have U:(#[N k,N m,N c]:Array Value).all (·.oneCell')=true:=by rw [kjQb];rfl
 have K:=qC _ _ #[N k,N m,N c] _ _ J;have V:Fr w ((w.alloc (.cells #[.int .i64 0,.int .i64 0,.int .i64 0] 107)).setRow w.heap.size #[N k,N m,N c]):=ak.below ((Fr.refl w).alloc _) (fP _ _ _) (by simp) (fun q hq=>by rw [hq];exact ag _);go_enter Tryz.func67, Tryz.ntmps67;go_wp2_with (first | (refine gG rfl 107 (.tmp 10) (.tmp 15) rfl w.heap.size #[N k,N m,N c] rfl rfl 107 _ J T rfl U ?_) | (refine iQ rfl 107 (.tmp 10) rfl w.heap.size rfl 107 #[N k,N m,N c] (0,0) _ K Tryz.underlying107 rfl T ?_));refine(HM.out _).mono ?_;rintro e w1 ⟨rfl,L⟩;have F:=L.heap K;have M:=V.trans L;clear K U J V;generalize hW:(w.alloc (.cells #[.int .i64 0,.int .i64 0,.int .i64 0] 107)).setRow w.heap.size #[N k,N m,N c]=W0 at *;clear hW;by_cases d:n<=8388608
 · rw [bs d];have a4:=ad (xB k m c n O Q (by omega) D d);have a5:=ad (Dw k m c G D);have X:(k+m)*(c+4)<=255*4100:=b7 G (by omega);have Y:=xz k c n (by omega) D d;have Z:bG k c n*((k+m)*(c+4))<=9433088*(255*4100):=b7 Y X;have bu:=jy (bG k c n) ((k+m)*(c+4)) _ Z (by omega);have aa:=ad (I.out.1 d);clear I;generalize (k+m)*(c+4)=la at *;generalize bG k c n=st at *;generalize st*la=z at *;have a0:=ae F 0 rfl;have a1:=ae F 1 rfl;have a2:=ae F 2 rfl;have HF:=ad M;clear M L F d Z Y X;go_upto_region 4 with fail
   go_region_held3 (fun w' => w'.cell? ⟨w.heap.size, 0, none⟩ = some (N k) ∧ w'.cell? ⟨w.heap.size, 1, none⟩ = some (N m) ∧ w'.cell? ⟨w.heap.size, 2, none⟩ = some (N c))
    (first | go_keep)
    ((first
     | (go_at_call 68; refine (a4.out _).mono ?_; rintro e w2 ⟨rfl, h⟩; have b0 := h.cell a0; have b1 := h.cell a1; have b2 := h.cell a2)
     | (go_at_call 111; refine (a5.out _).mono ?_; rintro e w3 ⟨rfl, o⟩; have d0 := o.cell b0; have d1 := o.cell b1; have d2 := o.cell b2)))
   by_cases hz:z<=16777216;· have bm:¬(16777216:Int)<z:=(by omega);have y:=ad (aa.out.1 hz);go_wp2_with fail;exact b6Qb (v:=.tuple #[N z,.int .i64 0]) (by simp [results,Tryz.results67,go_sem, *]) rfl ⟨by rw [y.out],((HF.out.trans (Fr.drew (Fr.refl _))).trans h).trans o⟩
   · have bm:(16777216:Int)<z:=(by omega);have y:=ad (aa.out.2 hz);go_wp2_with fail;exact b6Qb (v:=.tuple #[.int .i64 0,.int .i64 6]) (by simp [results,Tryz.results67,go_sem, *]) rfl ⟨by rw [y.out],((HF.out.trans (Fr.drew (Fr.refl _))).trans h).trans o⟩
 · rw [bi d];have y:=ad (I.out.2 d);go_wp2_with fail;exact b6Qb (v:=.tuple #[.int .i64 0,.int .i64 13]) (by simp [results,Tryz.results67,go_sem, *]) rfl ⟨by rw [y.out],M⟩
theorem J0(k m c n:Nat)(O:1<=k)(y:k+m<=255)(aa:1<=c)(J:c<=4096)(w:World):Calls Tryz.prog 130 #[N k,N m,N c,N n] w fun e w'=>e=.returned (lA k m c n)/\Fr w w':=by
 have Q:=ad (AU k m O y);have D:=ad (qA k m c n);generalize lA k m c n=R at *;have k5:(1:Int)<=c:=by omega
 have k6:(c:Int)<=4096:=by omega
 have k7:(0:Int)<=n:=by omega
 by_cases F:n<=8388608
 · have ab:(n:Int)<=8388608:=(by omega);have T:(k+m)*(c+4)<=255*4100:=b7 y (by omega);have G:=xz k c n (by omega) J F;have a6:1*1<=k*c:=b7 O aa;have ac:k*c<=255*4096:=b7 (by omega) J;have aj:bG k c n*((k+m)*(c+4))<=9433088*(255*4100):=b7 G T;have U:bG k c n=n / (k*c)+(if n / (k*c)*k*c<n then 1 else 0):=by
    unfold bG;have h1:=Nat.div_add_mod n (k*c);have K:=jM n (show 0<k*c by omega);have h3:n / (k*c)*k*c=k*c*(n / (k*c)):=(by rw [Nat.mul_assoc,fK]);rw [h3];generalize k*c=z at *;generalize hq:n / z=q at *;generalize hr:n % z=r at *;have d:0<z:=(by omega);have e:(n+z - 1)=z*q+(r+z - 1):=(by omega);rw [e,Nat.mul_add_div d];by_cases a0:r=0;· subst a0;rw [ah (by omega),lq (by omega)]
    · rw [ai (by omega)];have:r+z - 1=z+(r - 1):=(by omega);rw [this,Nat.add_div_left _ d,lq (by omega)]
   have o:=ad (D.out.1 F);clear D;have bc:(if n / (k*c)*k*c<n then 1 else 0)<=1:=(by split <;> omega);have bd:=jy k c _ ac (by omega);have bf:(n:Int).tdiv ((k*c:Nat):Int)=((n / (k*c):Nat):Int):=(by rw [Int.tdiv_eq_ediv_of_nonneg (by omega)];simp);have bk:¬((k*c:Nat):Int)=0:=(by omega);have V:n / (k*c)<=8388608:=aq (jO _ _) F;have bm:0<=n / (k*c):=ap _;have bn:=jy (n / (k*c)) k (8388608*255) (b7 V (by omega)) (by omega);have bt:=jy (n / (k*c)*k) c (8388608*255*4096) (b7 (b7 V (by omega)) J) (by omega);have bu:IntKind.i64.wrap ((n / (k*c):Nat):Int)=((n / (k*c):Nat):Int):=mV _ (by omega);have X:=jy (bG k c n) (k+m) (9433088*255) (b7 G y) (by omega);have Y:=jy (bG k c n*(k+m)) (c+4) (9433088*255*4100) (b7 (b7 G y) (by omega)) (by omega);rw [Nat.mul_assoc]at Y;rw [show((k+m:Nat):Int)=(k:Int)+m by omega]at X;rw [show((c+4:Nat):Int)=(c:Int)+4 by omega]at Y;generalize d:bG k c n*((k+m)*(c+4))=z at *;generalize bG k c n*(k+m)=z1 at *;generalize bG k c n=Z at *;generalize n / (k*c)*k*c=L at *;generalize n / (k*c)*k=z3 at *;generalize n / (k*c)=q at *;generalize k*c=kc at *;have I:=ad U;clear U d aj G T;go_enter Tryz.func130, Tryz.ntmps130;go_wp2_with fail;refine(Q.out _).mono ?_;rintro e w1 ⟨rfl,rfl⟩;have k8:(1:Int)<=k:=(by omega);have k9:(k:Int)+m<=255:=(by omega);have b2:(0:Int)<=m:=(by omega);have b3:∀ W:World,Fr W W:=Fr.refl;by_cases K:L<n
   · have a2:(L:Int)<n:=(by omega);obtain rfl:Z=q+1:=(by rw [I.out,ai K]);rw [show((q+1:Nat):Int)=(q:Int)+1 by omega]at X;clear I;by_cases d:z<=16777216;· have M:¬(16777216:Int)<z:=(by omega);have h:=ad (o.out.1 d);clear o;go_wp2_with fail;exact b6Qb (v:=.tuple #[N z,.int .i64 0]) (by simp [results,Tryz.results130,go_sem, *]) rfl ⟨by rw [h.out],Fr.refl _⟩
     · have M:(16777216:Int)<z:=(by omega);have h:=ad (o.out.2 d);clear o;go_wp2_with fail;exact b6Qb (v:=.tuple #[.int .i64 0,.int .i64 6]) (by simp [results,Tryz.results130,go_sem, *]) rfl ⟨by rw [h.out],Fr.refl _⟩
   · have a2:¬(L:Int)<n:=(by omega);obtain rfl:Z=q:=(by rw [I.out,ah K];rfl);clear I;by_cases d:z<=16777216;· have M:¬(16777216:Int)<z:=(by omega);have h:=ad (o.out.1 d);clear o;go_wp2_with fail;exact b6Qb (v:=.tuple #[N z,.int .i64 0]) (by simp [results,Tryz.results130,go_sem, *]) rfl ⟨by rw [h.out],Fr.refl _⟩
     · have M:(16777216:Int)<z:=(by omega);have h:=ad (o.out.2 d);clear o;go_wp2_with fail;exact b6Qb (v:=.tuple #[.int .i64 0,.int .i64 6]) (by simp [results,Tryz.results130,go_sem, *]) rfl ⟨by rw [h.out],Fr.refl _⟩
 · have ab:¬(n:Int)<=8388608:=(by omega);have h:=ad (D.out.2 F);clear D;go_enter Tryz.func130, Tryz.ntmps130;go_wp2_with fail;refine(Q.out _).mono ?_;rintro e w1 ⟨rfl,rfl⟩;go_wp2_with fail;exact b6Qb (v:=.tuple #[.int .i64 0,.int .i64 13]) (by simp [results,Tryz.results130,go_sem, *]) rfl ⟨by rw [h.out],Fr.refl _⟩
def mm(l:List UInt8)(k m c a:Nat):List UInt8:=cN (de l c a k)++cN (jC m (de l c a k) c)
def dM(l:List UInt8)(k m c:Nat):Nat->List UInt8
 | 0=>[]
 | s+1=>dM l k m c s++mm l k m c (s*(k*c))
theorem tC(m:Nat)(d:List (List UInt8))(L:Nat):(jC m d L).length=m:=sQ _ _ _ _ _
theorem tD(m:Nat)(e:List (List UInt8))(L:Nat)(h:∀ p∈e,p.length=L):∀ p∈jC m e L,p.length=L:=by
 intro p d;unfold jC j6 at d;simp only [gt]at d;obtain⟨i,_,rfl⟩:=d;exact nj _ _ _ _ _ _ h (ag _)
theorem Dd(l:List UInt8)(k m c a:Nat):(mm l k m c a).length=(k+m)*(c+4):=by
 unfold mm;rw [an,no _ c (kO l c a k),no _ c (tD m _ c (kO l c a k)),mq,tC,cr]
theorem qY(l:List UInt8)(k m c s:Nat):(dM l k m c s).length=s*((k+m)*(c+4)):=by
 induction s with
 | zero=>simp [dM]
 | succ s d=>rw [dM,an,d,Dd];generalize (k+m)*(c+4)=z;rw [cr,fJ]
theorem xy(k c n:Nat)(h:0<k*c)(s:Nat):s<bG k c n↔s*(k*c)<n:=by
 unfold bG;rw [Nat.lt_iff_add_one_le,vI h,cr,fJ];omega
theorem JR (k m c : Nat) (v : Value) (l : List UInt8) (w : World) (hv : af w eB v l) (b5 : 1 ≤ k) (dk : k + m ≤ 255) (b8 : 1 ≤ c) (X : c ≤ 4096) (hl : l.length ≤ 1000000) (hz : bG k c l.length * ((k + m) * (c + 4)) ≤ 16777216) :
    Calls Tryz.prog 85 #[N k,N m,N c,v] w fun e w'=>∃ v',e=.returned (.tuple #[v',.int .i64 0])/\Ow w' w.heap.size eB v' (dM l k m c (bG k c l.length))/\Fr w w':=by
  obtain⟨va,vc,rfl,a3,a4,a5⟩:=hv.shape;unfold maxLen at a4;have HS:=ad (J0 k m c l.length b5 dk b8 X);rw [(qA k m c l.length).1 (by omega) |>.1 hz]at HS;have HP:=ad (fun W Y hs Z (h:bY W aP eB Y hs Z) (Q:Z.length=k) (h2:∀ p∈Z,p.length=c)=>J1 m Y hs Z c W h (by omega) (by omega) h2 (by omega));have bA:=ad (fun W pv p (h:af W eB pv p) (h2:p.length<=1000000)=>lQ pv p W h h2);have gc:1*1<=k*c:=b7 b5 b8;have d0:k*c<=255*4096:=b7 (by omega) X;have ac:=jy k c _ d0 (by omega);go_enter Tryz.func85, Tryz.ntmps85;go_wp2_with fail;refine(HS.out _).mono ?_;rintro e w1 ⟨rfl,bB⟩;go_wp2_with fail;have bR:=xy k c l.length (by omega);have ca:=ad bR;clear bR HS;generalize hN:bG k c l.length=sN at *;have HN:=ad hN;clear hN;have cc:∀ p:List UInt8,(ay p).length=p.length+4:=fp;have cf:=ad cc;clear cc;go_loopw [12,13] (fun K av wr=>∃ s:Nat,s<=sN/\av=N (s*(k*c))/\Ow wr w.heap.size eB K (dM l k m c s)/\Fr w wr) (fun _ av _=>l.length+k*c - (intOf av).toNat);case atStart=>exact⟨0,ap _,by simp,Ow.nil,bB⟩
  case round=>
    clear bB;obtain⟨s,hs,rfl,q,o⟩:=hrel;by_cases d2:s<sN
    · have hA:s*(k*c)<l.length:=(ca.out s).1 d2;have d4:Hid ((s+1)*(k*c)=s*(k*c)+k*c):=(by show _=_;rw [cr,fJ]);have d5:Hid (dM l k m c (s+1)=dM l k m c s++mm l k m c (s*(k*c))):=rfl;have cj:Hid ((dM l k m c s).length+(k+m)*(c+4)<=16777216):=(by show _<=_;rw [qY];have Q:=cW ((k+m)*(c+4)) (show s+1<=sN by omega);rw [cr,fJ]at Q;omega);generalize d6:s*(k*c)=A at *;have gs:(A:Int)<l.length:=(by omega);have d7:=o.size;generalize wr=W at *;generalize dM l k m c s=G at *;clear d6;go_wp2_with fail;go_loopw [12,14,15] (fun K Y L wr=>∃ (i:Nat) (ps:List Hd),i<=k/\L=N i/\Ow wr w.heap.size eB K (G++cN (de l c A i))/\Ow wr W.heap.size aP Y ps/\eb wr W.heap.size eB ps (de l c A i) K/\W.heap.size<=wr.heap.size/\Fr w wr) (fun _ _ L _=>k - (intOf L).toNat);case atStart=>exact⟨0,[],ap _,rfl,by simpa [cN,de] using q,Ow.nil,eb.nil,ag _,o⟩
      case round=>
        clear q o;obtain⟨i,ps,hi,rfl,q,bb,I,cl,o⟩:=hrel;by_cases g0:i<k
        · have g1:(i:Int)<k:=(by omega);have g2:i*c+c<=k*c:=(by have:=cW c (show i+1<=k by omega);rw [cr,fJ]at this;exact this);have g3:=jy i c (255*4096) (b7 (by omega) X) (by omega);have g4:IntKind.i64.wrap (((i:Int)+1)*(c:Int))=((i*c:Nat):Int)+c:=(by have Q:=jy (i+1) c (255*4096) (b7 (by omega) X) (by omega);rw [show((i+1:Nat):Int)=(i:Int)+1 by omega]at Q;rw [Q,cr,fJ];omega);have cm:Hid (de l c A (i+1)=de l c A i++[gC l (A+i*c) c]):=EA l c A i;have bc:Hid ((de l c A i).length=i):=mq l c A i;have bd:Hid ((G++cN (de l c A i)).length=G.length+i*(c+4)):=(by show _=_;rw [an,no _ c (kO l c A i),mq]);have g5:i*(c+4)+(c+4)<=(k+m)*(c+4):=(by have:=cW (c+4) (show i+1<=k+m by omega);rw [cr,fJ]at this;exact this);generalize i*(c+4)=ob at *;generalize (k+m)*(c+4)=lb at *;generalize d8:i*c=B at *;clear d8;generalize wr=J at *;have cn:IntKind.i64.wrap ((A:Int)+B)=(A:Int)+B:=ar _ (by omega);have g8:IntKind.i64.wrap ((A:Int)+((B:Int)+c))=(A:Int)+((B:Int)+c):=ar _ (by omega);have co:=ac;clear ac;have g9:=ad co;clear co;go_wp2_with fail;go_loopw [16,17] (fun pv xv wr=>∃ t:Nat,t<=c/\xv=.int .i64 ((A:Int)+B+t)/\Ow wr J.heap.size eB pv (gC l (A+B) t)/\Fr J wr) (fun _ xv _=>((A:Int)+B+c - intOf xv).toNat);case atStart=>exact⟨0,ap _,by simp,Ow.nil,Fr.refl J⟩
          case round=>
            obtain⟨t,ht,rfl,F,y⟩:=hrel;have x0:(0:Int)<=(A:Int)+B+t:=(by omega);have a1:Hid ((gC l (A+B) t).length=t):=ry _ _ _;by_cases gO:t<c
            · have hd:(A:Int)+B+t<(A:Int)+((B:Int)+c):=(by omega);have HC:Hid (gC l (A+B) (t+1)=gC l (A+B) t++[l.getD (A+B+t) 0]):=Hi _ _ _;have cp:(gC l (A+B) t).length+1<=2147483648:=(by rw [a1.out];omega);by_cases cs:A+B+t<l.length
              · have d9:(A:Int)+B+t<l.length:=(by omega);obtain⟨b,dT,ec,a4,e1⟩:=((hv.fr o).fr y).cell1 (fun c=>Fk.u8 c) rfl (A+B+t) cs;rw [<- kA l (A+B+t) 0 cs]at e1;have xn:((A:Int)+B+t).toNat=A+B+t:=(by omega);generalize l.getD (A+B+t) 0=ch at *;cases a4;go_wp2_with (at_builtin;refine aM eB rfl (.tmp 71) (.tmp 73) 29 rfl Tryz.underlying29 J.heap.size rfl F [ch] _ _ _ rfl rfl rfl cp y.size ?_);intro v' w4 V;go_wp2_with fail;go_roundw;case rel=>exact⟨t+1,by omega,by go_num,by rw [HC.out];exact V.own,V.below F y (ag _) y.size⟩
                case measure=>simp [intOf];omega
              · have d9:¬(A:Int)+B+t<l.length:=(by omega);have HG:Hid (l.getD (A+B+t) 0=0):=(by show _=_;rw [cD,gJ (by omega)];rfl);go_wp2_with (at_builtin;refine aM eB rfl (.tmp 71) (.tmp 73) 29 rfl Tryz.underlying29 J.heap.size rfl F [0] _ _ _ rfl rfl rfl cp y.size ?_);intro v' w4 V;go_wp2_with fail;go_roundw;case rel=>exact⟨t+1,by omega,by go_num,by rw [HC.out,HG.out];exact V.own,V.below F y (ag _) y.size⟩
                case measure=>simp [intOf];omega
            · obtain rfl:t=c:=(by omega);have hg:¬((A:Int)+B+t<(A:Int)+((B:Int)+t)):=(by omega);obtain⟨pa,pc,cx⟩:=F.shape';rw [a1.out]at cx;subst cx;have er:(gC l (A+B) t).length<=1000000:=(by rw [a1.out];omega);have cy:=q.fr y;have R:=bb.fr y;have cz:=I.fr y;have es:ps.length+1<=2147483648:=(by have:=I.1;rw [bc.out]at this;omega);have c0:W.heap.size<=wr.heap.size:=aq cl y.size;have ev:=jH q F (ag _);go_wp2_with (at_builtin;refine aM aP rfl (.tmp 75) (.tmp 77) 72 rfl Tryz.underlying72 W.heap.size rfl R [⟨pa,t,pc⟩] _ _ _ rfl rfl rfl es c0 ?_);intro hh w4 M;have T:aP.e≠eB.e:=(by decide);have c1:=b9 F R M T;have e0:=b9 cy R M T;have e2:=cz.beside R M T;have e3:=M.own;have bm:Fr w w4:=M.below R (o.trans y) d7 (o.trans y).size;have e4:W.heap.size<=w4.heap.size:=aq c0 M.size;clear M R cz cy F;go_wp2_with fail;refine(bA.out _ _ _ c1.see er).mono ?_;rintro e w5 ⟨v5,rfl,bn,d⟩;have O:=e0.fr d;have bt:(G++cN (de l t A i)).length+(ay (gC l (A+B) t)).length<=2147483648:=(by have:=cj.out;rw [bd.out,cf.out,a1.out];omega);go_wp2_with (at_builtin;refine aN eB rfl (.tmp 79) (.tmp 81) 29 rfl Tryz.underlying29 w.heap.size rfl O _ _ rfl bn.see bt (bm.trans d).size ?_);intro e7 w6 z;have fa:=(e2.fr d).snoc (x:=⟨pa,t,pc⟩) (c1.fr d |>.rebase cl) ev;have fb:=tI (e3.fr d) O z T;go_wp2_with fail;go_roundw
              case rel=>
                refine⟨i+1,_,by omega,by go_num,?_,fb,?_,aq e4 (aq d.size z.size),z.below O (bm.trans d) (ag _) (bm.trans d).size⟩;· rw [cm.out,t5];first | exact z.own | (rw [<- eE];exact z.own)
                · rw [cm.out];exact fa.app z
              case measure=>simp [intOf];omega
        · obtain rfl:i=k:=(by omega);have hk:¬((i:Int)<i):=(by omega);have bc:Hid ((de l c A i).length=i):=mq l c A i;have c3:=HP.out wr _ _ _ (I.sees2 bb.see) bc.out (kO l c A i);have fc:=ad c3;have bd:Hid ((G++cN (de l c A i)).length=G.length+i*(c+4)):=(by show _=_;rw [an,no _ c (kO l c A i),mq]);have fd:Hid (dM l i m c (s+1)=(G++cN (de l c A i))++cN (jC m (de l c A i) c)):=(by show _=_;rw [d5.out,mm,eE]);have c4:=ad (tD m _ c (kO l c A i));have bu:=ad (tC m (de l c A i) c);generalize jC m (de l c A i) c=D at *;generalize G++cN (de l c A i)=o1 at *;clear c3 bb I;go_wp2_with fail;refine fc.out.mono ?_;rintro e w3 ⟨v3,rfl,U,bv,c6,c7⟩;have c8:eb w3 wr.heap.size eB U D u12:=c6.rows (fun b hb=>(q.lt b hb).2);have c9:=q.fr c7;obtain⟨fm,fn,a5⟩:=bv.shape';have bx:U.length=m:=(by rw [c6.1,bu.out]);rw [bx]at a5;have cA:=ad bx;clear bx;subst a5;have cF:=o.trans c7;go_wp2_with fail;generalize wr=J at *;go_loopw [12,21] (fun K L wr=>∃ j:Nat,j<=m/\L=N j/\Ow wr w.heap.size eB K (o1++cN (D.take j))/\eb wr J.heap.size eB U D K/\Ow wr J.heap.size aP (.slice fm m fn) U/\Fr w wr) (fun _ L _=>m - (intOf L).toNat);case atStart=>exact⟨0,ap _,rfl,by simpa [cN] using c9,c8,bv,cF⟩
          case round=>
            clear c9 c8 bv cF;obtain⟨j,hj,rfl,q,I,bz,o⟩:=hrel;by_cases cG:j<m
            · have ho:(j:Int)<m:=(by omega);have da:j<U.length:=(by rw [cA.out];exact cG);have dc:j<D.length:=(by rw [bu.out];exact cG);have fr:=I.2 j da dc;obtain⟨b,dT,ec,a3,e1⟩:=bz.see.cell1 (fun(h:Hd)=>h.v) rfl j da;have fs:Hid (cN (D.take (j+1))=cN (D.take j)++ay D[j]):=(by show _=_;rw [cL dc,t5]);have fv:Hid ((cN (D.take j)).length=j*(c+4)):=(by show _=_;rw [no _ c (fun p F=>c4.out p (eD F)),aV,gr (by omega)]);have b0:Hid (D[j].length=c):=c4.out _ (aH _);have hq:(i+j)*(c+4)+(c+4)<=(i+m)*(c+4):=(by have:=cW (c+4) (show i+j+1<=i+m by omega);rw [cr (i+j) 1,fJ]at this;exact this);have hr:(i+j)*(c+4)=i*(c+4)+j*(c+4):=cr _ _ _;have b1:=fr.1;obtain⟨ra,rc,b2⟩:=b1.shape';rw [b0.out]at b2;rw [cA.out]at a3;generalize U[j]=h at *;obtain⟨ha,hn,h0⟩:=h;simp only [Hd.v,ed]at b2;obtain⟨rfl,rfl,rfl⟩:=b2;simp only [Hd.v]at e1 b1;cases a3;have i1:(0:Int)<=j:=(by omega);have HC:=ad (bA.out wr _ _ b1.see (by rw [b0.out];omega));generalize D[j]=pj at *;go_wp2_with fail;refine HC.out.mono ?_;rintro e w5 ⟨v5,rfl,bn,d⟩;have O:=q.fr d;have bt:(o1++cN (D.take j)).length+(ay pj).length<=2147483648:=(by have Q:=cj.out;have h2:=bd.out;rw [an,cf.out,b0.out,fv.out];omega);go_wp2_with (at_builtin;refine aN eB rfl (.tmp 95) (.tmp 100) 29 rfl Tryz.underlying29 w.heap.size rfl O _ _ rfl bn.see bt (o.trans d).size ?_);intro e7 w6 z;have T:aP.e≠eB.e:=(by decide);have f1:=(I.fr d).app z;have f2:=tI (bz.fr d) O z T;go_wp2_with fail;go_roundw;case rel=>exact⟨j+1,by omega,by go_num,by rw [fs.out];first | exact z.own | (rw [<- eE];exact z.own),f1,f2,z.below O (o.trans d) (ag _) (o.trans d).size⟩
              case measure=>simp [intOf];omega
            · obtain rfl:j=m:=(by omega);have h4:¬((j:Int)<j):=(by omega);rw [eo (by rw [bu.out];exact ag _),<- fd.out]at q;clear bz I;have f3:=ac;have dd:Hid ((A:Int)+((i*c:Nat):Int)=((((s+1)*(i*c)):Nat):Int)):=(by show _=_;rw [d4.out];simp);have cn:IntKind.i64.wrap ((A:Int)+((i*c:Nat):Int))=(A:Int)+((i*c:Nat):Int):=ar _ (by omega);have f4:∃ zN:Nat,((i*c:Nat):Int)=(zN:Int)/\i*c=zN:=⟨_,rfl,rfl⟩;obtain⟨zN,di,dj⟩:=f4;rw [di]at cn dd ac f3;have HZ:=ad dj;clear di dj;go_wp2_with fail;go_roundw;case rel=>exact⟨s+1,by omega,by rw [dd.out],q,o⟩
              case measure=>have:=HZ.out;simp [intOf];omega
    · obtain rfl:s=sN:=(by omega);have hA:l.length<=s*(k*c):=(by have:=fun h=>(ca.out s).2 h;omega);generalize s*(k*c)=A at *;have h5:¬((A:Int)<l.length):=(by omega);go_wp2_with fail;obtain⟨oa,oc,rfl⟩:=q.shape';exact b6Qb (v:=.tuple #[.slice oa (dM l k m c s).length oc,.int .i64 0]) (by simp [results,Tryz.results85,go_sem, *]) rfl ⟨_,rfl,by rw [HN.out];exact q,o⟩
end Go.Proofs.YtdamnfpigajmoaaGreatDoor
