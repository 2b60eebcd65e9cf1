/- Parts of the proof of ArchEnds: T1 T2 Md0 Md1. -/
import Derived.Test.YtfpijnhhdfoohaaGreatDoorM16
import Derived.Lib.SmallJoins
import Derived.Test.YtfpijnhhdfoohaaGreatDoorM10
import Derived.Test.YtfpijnhhdfoohaaGreatDoorM00
import Derived.Test.YtfpijnhhdfoohaaGreatDoorM09
set_option linter.unusedVariables false
set_option linter.unusedSectionVars false
set_option linter.unusedSimpArgs false
set_option maxHeartbeats 8000000
set_option maxRecDepth 100000
namespace Go.Fk
abbrev mF:=@List.drop_drop
end Go.Fk
namespace Go.Proofs.YtfpijnhhdfoohaaGreatDoor
open Go.RowKit Go.Fk
theorem vP(a b m:Nat)(d:a*b<=m)(e:m<9223372036854775808):IntKind.i64.wrap ((a:Int)*(b:Int))=((a*b:Nat):Int):=by
 rw [qpQb];exact aw _ (by rw [<- qpQb];omega)
abbrev tU(k m c:Nat):Value:=.agg #[N k,N m,N c]
theorem IQ(k m c:Nat)(d:k<=255)(h:c<=4096)(w:World):Calls Tryz.prog 72 #[tU k m c] w fun e o=>e=.returned (N (k*c))/\Fr w o:=by
 have q:k*c<=255*4096:=bJ d h;have A:=vP k c _ q (by omega);generalize k*c=z at *;go_enter Tryz.func72, Tryz.ntmps72;go_wp2_with fail;go_ret;exact⟨rfl,(Fr.refl w).alloc _⟩
theorem AM(k m c:Nat)(d:k+m<=255)(A:c<=4096)(w:World):Calls Tryz.prog 107 #[tU k m c] w fun e h=>e=.returned (N ((k+m)*(c+4)))/\Fr w h:=by
 have o:(k+m)*(c+4)<=255*4100:=bJ d (by omega);have q:=vP (k+m) (c+4) _ o (by omega);have B:(0:Int)<=k:=by omega
 have D:(k:Int)<=255:=by omega
 have k3:(0:Int)<=m:=by omega
 have F:(m:Int)<=255:=by omega
 have G:(c:Int)<=4096:=by omega
 have I:(0:Int)<=c:=by omega
 rw [show((k+m:Nat):Int)=(k:Int)+m by omega,show((c+4:Nat):Int)=(c:Int)+4 by omega]at q;generalize (k+m)*(c+4)=z at *;go_enter Tryz.func107, Tryz.ntmps107;go_wp2_with fail;go_ret;exact⟨rfl,(Fr.refl w).alloc _⟩
def bg(k c n:Nat):Nat:=(n+k*c - 1) / (k*c)
theorem I6(k m c n:Nat)(J:1<=k)(A:1<=c)(D:k<=255)(F:c<=4096)(X:n<=8388608)(w:World):Calls Tryz.prog 71 #[tU k m c,N n] w fun e d=>e=.returned (N (bg k c n))/\Fr w d:=by
  have Y:k*c<=255*4096:=bJ D F;have Z:1*1<=k*c:=bJ J A;have G:=ad (IQ k m c D F);unfold bg;generalize k*c=z at *;have aa:(1:Int)<=z:=(by omega);have ab:IntKind.i64.wrap ((n:Int)+z)=(n:Int)+z:=aw _ (by omega);have ac:IntKind.i64.wrap ((n:Int)+z - 1)=(n:Int)+z - 1:=aw _ (by omega);have aj:((n:Int)+z - 1).tdiv z=(((n+z - 1) / z:Nat):Int):=(by rw [show(n:Int)+z - 1=((n+z - 1:Nat):Int) by omega,Int.tdiv_eq_ediv_of_nonneg (by omega)];simp);have hq:(n+z - 1) / z<=8388608+255*4096:=az (lR _ _) (by omega);generalize (n+z - 1) / z=q at *;have ap:IntKind.i64.wrap (q:Int)=q:=aw _ (by omega);have av:¬(z:Int)=0:=(by omega);have K:¬z=0:=(by omega);have a3:z≠0:=K;go_enter Tryz.func71, Tryz.ntmps71;go_wp2_with fail;generalize B:w.alloc (.cells #[N k,N m,N c] 116)=W;have I:Fr w W:=(by rw [<- B];exact(Fr.refl w).alloc _);have A:W.cell? ⟨w.heap.size,0,none⟩=some (N k)/\W.cell? ⟨w.heap.size,1,none⟩=some (N m)/\W.cell? ⟨w.heap.size,2,none⟩=some (N c):=(by rw [<- B];refine⟨?_,?_,?_⟩ <;> rw [World.cell?_alloc_at _ _ _ _ rfl] <;> rfl);obtain⟨L,M,O⟩:=A;have Q:=ad I;clear B I
  go_region_held3 (fun d => d.cell? ⟨w.heap.size, 0, none⟩ = some (N k) ∧ d.cell? ⟨w.heap.size, 1, none⟩ = some (N m) ∧ d.cell? ⟨w.heap.size, 2, none⟩ = some (N c))
    (first | go_keep)
    ((first
      | (go_at_call 72; refine (G.out _).mono ?_; rintro e w1 ⟨rfl, h⟩; have R := h.cell L; have U := h.cell M; have V := h.cell O)
      | (go_at_call 72; refine (G.out _).mono ?_; rintro e w2 ⟨rfl, o⟩; have d0 := o.cell R; have d1 := o.cell U; have d2 := o.cell V)))
  go_wp2_with fail;go_ret;exact⟨rfl,((Q.out.trans (Fr.drew (Fr.refl _))).trans h).trans o⟩
theorem IA(k m c n:Nat)(q:1<=k)(z:k+m<=255)(A:1<=c)(B:c<=4096)(w:World):Calls Tryz.prog 106 #[tU k m c,N n] w fun e d=>e=.returned (.bool (decide (n<=8388608)))/\Fr w d:=by
 have D:(1:Int)<=k:=by omega
 have F:(0:Int)<=m:=by omega
 have k3:(k:Int)<=255:=by omega
 have G:(m:Int)<=255 - k:=by omega
 have I:(1:Int)<=c:=by omega
 have J:(c:Int)<=4096:=by omega
 have K:(0:Int)<=n:=by omega
 have L:IntKind.i64.wrap (255 - (k:Int))=255 - k:=aw _ (by omega);by_cases h:n<=8388608;· rw [bt h];have o:(n:Int)<=8388608:=(by omega);go_enter Tryz.func106, Tryz.ntmps106;go_wp2_with fail;go_ret;exact⟨rfl,(Fr.refl w).alloc _⟩
 · rw [aX h];have o:¬(n:Int)<=8388608:=(by omega);go_enter Tryz.func106, Tryz.ntmps106;go_wp2_with fail;go_ret;exact⟨rfl,(Fr.refl w).alloc _⟩
def qA(k m c n:Nat):Value:=
 if n<=8388608 then(if bg k c n*((k+m)*(c+4))<=16777216 then .tuple #[N (bg k c n*((k+m)*(c+4))),.int .i64 0]else .tuple #[.int .i64 0,.int .i64 6])else .tuple #[.int .i64 0,.int .i64 13]
theorem AO(k m c n:Nat):(n<=8388608->(bg k c n*((k+m)*(c+4))<=16777216->qA k m c n=.tuple #[N (bg k c n*((k+m)*(c+4))),.int .i64 0])/\(¬bg k c n*((k+m)*(c+4))<=16777216->qA k m c n=.tuple #[.int .i64 0,.int .i64 6]))/\(¬n<=8388608->qA k m c n=.tuple #[.int .i64 0,.int .i64 13]):=by
 unfold qA;refine⟨fun h=>⟨fun d=>by rw [ag h,ag d],fun d=>by rw [ag h,ae d]⟩,fun h=>by rw [ae h]⟩
theorem Iy(k c n:Nat)(d:k<=255)(e:c<=4096)(h:n<=8388608):bg k c n<=9433088:=by
 have m:k*c<=255*4096:=bJ d e;unfold bg;exact az (lR _ _) (by omega)
theorem QV(k m c n:Nat)(Q:1<=k)(I:k+m<=255)(U:1<=c)(F:c<=4096)(w:World):Calls Tryz.prog 70 #[N k,N m,N c,N n] w fun e h=>e=.returned (qA k m c n)/\Fr w h:=by
 have HM:=ad (IA k m c n Q I U F);have J:=ad (AO k m c n);generalize qA k m c n=R at *;have K:=a9 w (.cells #[.int .i64 0,.int .i64 0,.int .i64 0] 116) _ rfl;have V:(Tryz.prog.info? 116).map (·.size)=some 3:=by kernel_rfl
 have X:(#[N k,N m,N c]:Array Value).all (·.oneCell')=true:=by rw [dPQb];rfl
 have L:=AR _ _ #[N k,N m,N c] _ _ K;have Y:Fr w ((w.alloc (.cells #[.int .i64 0,.int .i64 0,.int .i64 0] 116)).setRow w.heap.size #[N k,N m,N c]):=ah.below ((Fr.refl w).alloc _) (bC _ _ _) (by simp) (fun q hq=>by rw [hq];exact am _);go_enter Tryz.func70, Tryz.ntmps70;go_wp2_with (first | (refine bS rfl 116 (.tmp 10) (.tmp 15) rfl w.heap.size #[N k,N m,N c] rfl rfl 116 _ K V rfl X ?_) | (refine kD rfl 116 (.tmp 10) rfl w.heap.size rfl 116 #[N k,N m,N c] (0,0) _ L Tryz.underlying116 rfl V ?_));refine(HM.out _).mono ?_;rintro e w1 ⟨rfl,M⟩;have G:=M.heap L;have O:=Y.trans M;clear L X K Y;generalize hW:(w.alloc (.cells #[.int .i64 0,.int .i64 0,.int .i64 0] 116)).setRow w.heap.size #[N k,N m,N c]=W0 at *;clear hW;by_cases d:n<=8388608
 · rw [bt d];have a4:=ad (I6 k m c n Q U (by omega) F d);have a5:=ad (AM k m c I F);have Z:(k+m)*(c+4)<=255*4100:=bJ I (by omega);have aa:=Iy k c n (by omega) F d;have ab:bg k c n*((k+m)*(c+4))<=9433088*(255*4100):=bJ aa Z;have bs:=vP (bg k c n) ((k+m)*(c+4)) _ ab (by omega);have ac:=ad (J.out.1 d);clear J;generalize (k+m)*(c+4)=la at *;generalize bg k c n=st at *;generalize st*la=z at *;have a0:=af G 0 rfl;have a1:=af G 1 rfl;have a2:=af G 2 rfl;have HF:=ad O;clear O M G d ab aa Z;go_upto_region 4 with fail
   go_region_held3 (fun h => h.cell? ⟨w.heap.size, 0, none⟩ = some (N k) ∧ h.cell? ⟨w.heap.size, 1, none⟩ = some (N m) ∧ h.cell? ⟨w.heap.size, 2, none⟩ = some (N c))
    (first | go_keep)
    ((first
     | (go_at_call 71; refine (a4.out _).mono ?_; rintro e w2 ⟨rfl, o⟩; have b0 := o.cell a0; have b1 := o.cell a1; have b2 := o.cell a2)
     | (go_at_call 107; refine (a5.out _).mono ?_; rintro e w3 ⟨rfl, B⟩; have d0 := B.cell b0; have d1 := B.cell b1; have d2 := B.cell b2)))
   by_cases hz:z<=16777216;· have bk:¬(16777216:Int)<z:=(by omega);have D:=ad (ac.out.1 hz);go_wp2_with fail;exact aL (v:=.tuple #[N z,.int .i64 0]) (by simp [results,Tryz.results70,go_sem, *]) rfl ⟨by rw [D.out],((HF.out.trans (Fr.drew (Fr.refl _))).trans o).trans B⟩
   · have bk:(16777216:Int)<z:=(by omega);have D:=ad (ac.out.2 hz);go_wp2_with fail;exact aL (v:=.tuple #[.int .i64 0,.int .i64 6]) (by simp [results,Tryz.results70,go_sem, *]) rfl ⟨by rw [D.out],((HF.out.trans (Fr.drew (Fr.refl _))).trans o).trans B⟩
 · rw [aX d];have D:=ad (J.out.2 d);go_wp2_with fail;exact aL (v:=.tuple #[.int .i64 0,.int .i64 13]) (by simp [results,Tryz.results70,go_sem, *]) rfl ⟨by rw [D.out],O⟩
def Ix(l:List UInt8)(k m c a:Nat):List UInt8:=Bq (B4 l c a k)++Bq (n7 m (B4 l c a k) c)
def C6(l:List UInt8)(k m c:Nat):Nat->List UInt8
 | 0=>[]
 | s+1=>C6 l k m c s++Ix l k m c (s*(k*c))
theorem Kt(m:Nat)(d:List (List UInt8))(L:Nat):(n7 m d L).length=m:=tO _ _ _ _ _
theorem Ku(m:Nat)(e:List (List UInt8))(L:Nat)(h:∀ p∈e,p.length=L):∀ p∈n7 m e L,p.length=L:=by
 intro p d;unfold n7 lq at d;simp only [g6]at d;obtain⟨i,_,rfl⟩:=d;exact wF _ _ _ _ _ _ h (am _)
theorem wu(k c n:Nat)(h:0<k*c)(s:Nat):s<bg k c n↔s*(k*c)<n:=by
 unfold bg;rw [Nat.lt_iff_add_one_le,vu h,bU,j8];omega
def lE(k m c:Nat)(d:List Nat)(l:List (List UInt8)):List (List UInt8):=kT k m c d l++n7 m (kT k m c d l) c
theorem xF(k m c:Nat)(d:List Nat)(l:List (List UInt8)):(lE k m c d l).length=k+m:=by
 unfold lE;rw [aD,Dt,Kt]
theorem xG(k m c:Nat)(d:List Nat)(l:List (List UInt8))(e:l.length=k)(o:∀ p∈l,p.length=c):∀ p∈lE k m c d l,p.length=c:=by
 intro p q;rcases iZ.1 q with h | h;· exact yp k m c d l e o p h
 · exact Ku m _ c (yp k m c d l e o) p h
def bq(d:List Bool):List Nat:=(List.range d.length).filter fun i=>d.getD i false
def im(d:List Nat)(e:List (List UInt8)):List (List UInt8):=d.map fun i=>e.getD i []
def cr(l:List UInt8)(c a i:Nat):List UInt8:=(l.drop (a+i*(c+4))).take (c+4)
def bW(l:List UInt8)(c a n:Nat):List Bool:=(List.range n).map fun i=>bF (cr l c a i)
def ei(l:List UInt8)(c a n:Nat):List (List UInt8):=(List.range n).map fun i=>aS (cr l c a i)
def mZ(l:List UInt8)(c a n b:Nat):List Nat:=((List.range n).filter fun i=>!bF (cr l c a i)).map fun i=>b+i
def ox(e h:List (List UInt8))(d:List Bool):Bool:=(List.range d.length).all fun i=>!d.getD i false || decide (e.getD i []=h.getD i [])
def eT(k m c:Nat)(l:List UInt8)(a:Nat):Nat × List (List UInt8):=
 let d:=bW l c a (k+m)
 let e:=ei l c a (k+m)
 if (bq d).length < k then (12, []) else
  let h:=(bq d).take k
  let o:=lE k m c h (im h e)
  if ox o e d then(0,o.take k)else(2,[])
def fj(k m c:Nat)(l:List UInt8):Nat->Nat->List UInt8->List Nat->Nat × List UInt8 × List Nat
 | 0,_,d,e=>(0,d,e)
 | f+1,s,d,e=>
  let r:=eT k m c l (s*((k+m)*(c+4)))
  if r.1=0 then fj k m c l f (s+1) (d++r.2.flatten) (e++mZ l c (s*((k+m)*(c+4))) (k+m) (s*(k+m)))else(r.1,[],[])
def fi(k m c n:Nat)(l:List UInt8):Nat × List UInt8 × List Nat:=
 if 8388608<n then(13,[],[])else if 16777216<bg k c n*((k+m)*(c+4))then(6,[],[])
 else if l.length<bg k c n*((k+m)*(c+4))then(1,[],[])else if bg k c n*((k+m)*(c+4))<l.length then(2,[],[])
 else
  let r:=fj k m c l (bg k c n) 0 [] []
  if r.1=0 then(if(r.2.1.drop n).all (· == 0)then(0,r.2.1.take n,r.2.2)else(2,[],[]))else(r.1,[],[])
def jt(d:List Bool)(n:Nat):List Nat:=((List.range d.length).filter fun i=>!d.getD i false).map fun i=>n+i
theorem Qo(d:List Bool)(b:Bool)(n:Nat):jt (d++[b]) n=if b then jt d n else jt d n++[n+d.length]:=by
 unfold jt;rw [aD,lg,lf,rD,gp];have e:(List.range d.length).filter (fun i=>!(d++[b]).getD i false)=(List.range d.length).filter (fun i=>!d.getD i false):=by refine List.filter_congr fun i h=>?_;have:=eD.1 h;rw [cD,cD,vD this]
 have m:(d++[b]).getD d.length false=b:=by rw [cD,vC (am _)];simp
 have o:(List.filter (fun i=>!(d++[b]).getD i false) [d.length])=if b then []else [d.length]:=by rw [tt,m];cases b <;> rfl
 rw [e,o];cases b;· rfl
 · simp
theorem yI(d:List Bool)(n:Nat):(jt d n).length<=d.length:=by
 unfold jt;rw [eN];have:=tr (fun i=>!d.getD i false) (List.range d.length);rw [mD]at this;exact this
theorem sn(l:List UInt8)(c a n:Nat):(bW l c a n).length=n:=by simp [bW]
theorem ui(l:List UInt8)(c a n:Nat):(ei l c a n).length=n:=by simp [ei]
theorem CS(l:List UInt8)(c a n i:Nat)(h:i<n):(bW l c a n).getD i false=bF (cr l c a i):=by
 rw [cD];unfold bW;rw [List.getElem?_map,List.getElem?_range h];rfl
theorem sJ(l:List UInt8)(c a n b:Nat):mZ l c a n b=jt (bW l c a n) b:=by
 unfold mZ jt;rw [sn];congr 1;refine List.filter_congr fun i d=>?_;rw [CS l c a n i (eD.1 d)]
theorem DC(l:List UInt8)(c a i L:Nat)(h:i*(c+4)+(c+4)<=L):cr ((l.drop a).take L) c 0 i=cr l c a i:=by
 unfold cr;rw [tw,tq,iX,mF,gx (by omega)]
theorem tZ(i n c:Nat)(h:i<n):i*(c+4)+(c+4)<=n*(c+4):=by
 have:=dm (c+4) (show i+1<=n from h);rw [bU,j8]at this;exact this
theorem CR(l:List UInt8)(c a n:Nat):bW ((l.drop a).take (n*(c+4))) c 0 n=bW l c a n:=by
 unfold bW;exact jA fun i d=>by rw [DC l c a i _ (tZ i n c (eD.1 d))]
theorem Ks(l:List UInt8)(c a n:Nat):ei ((l.drop a).take (n*(c+4))) c 0 n=ei l c a n:=by
 unfold ei;exact jA fun i d=>by rw [DC l c a i _ (tZ i n c (eD.1 d))]
theorem Iv(k m c:Nat)(l:List UInt8)(a:Nat):eT k m c ((l.drop a).take ((k+m)*(c+4))) 0=eT k m c l a:=by
 unfold eT;rw [CR,Ks]
theorem Qn(l:List UInt8)(c a n b:Nat):mZ ((l.drop a).take (n*(c+4))) c 0 n b=mZ l c a n b:=by
 rw [sJ,sJ,CR]
theorem DB(l:List UInt8)(c a i:Nat)(h:a+i*(c+4)+(c+4)<=l.length):(cr l c a i).length=c+4:=by
 unfold cr;rw [aG,aU];omega
theorem B6(l:List UInt8)(c a n:Nat)(h:a+n*(c+4)<=l.length):∀ r (d:r<(ei l c a n).length),(bW l c a n).getD r false=true->(ei l c a n)[r].length=c:=by
 intro r d e;rw [ui]at d;rw [CS l c a n r d]at e;have:=tZ r n c d;simp only [ei,jY,mE];rw [OT _ e,DB l c a r (by omega)];omega
theorem Iu(k m c:Nat)(l:List UInt8)(a:Nat)(h:(bq (bW l c a (k+m))).length<k):eT k m c l a=(12,[]):=by unfold eT;simp only [h,mA]
theorem Is(k m c:Nat)(l:List UInt8)(a:Nat)(h:¬(bq (bW l c a (k+m))).length<k)(d:ox (lE k m c ((bq (bW l c a (k+m))).take k) (im ((bq (bW l c a (k+m))).take k) (ei l c a (k+m)))) (ei l c a (k+m)) (bW l c a (k+m))=true) :
  eT k m c l a=(0,(lE k m c ((bq (bW l c a (k+m))).take k) (im ((bq (bW l c a (k+m))).take k) (ei l c a (k+m)))).take k):=by unfold eT;simp only [h,if_false,d,mA]
theorem Iw(k m c:Nat)(l:List UInt8)(a:Nat)(h:¬(bq (bW l c a (k+m))).length<k)(d:ox (lE k m c ((bq (bW l c a (k+m))).take k) (im ((bq (bW l c a (k+m))).take k) (ei l c a (k+m)))) (ei l c a (k+m)) (bW l c a (k+m))=false) :
  eT k m c l a=(2,[]):=by
 unfold eT;simp only [h,if_false,d];rfl
theorem IW(e m:List (List UInt8))(d:List Bool)(h:∀ i,i<d.length->d.getD i false=true->e.getD i []=m.getD i []):ox e m d=true:=by
 unfold ox;rw [ogQb];intro i o;have:=h i (eD.1 o);cases q:d.getD i false;· rfl
 · rw [this q];simp
theorem IX(e h:List (List UInt8))(d:List Bool)(i:Nat)(m:i<d.length)(o:d.getD i false=true)(q:e.getD i []≠h.getD i []):ox e h d=false:=by
 unfold ox;rw [List.all_eq_false];exact⟨i,eD.2 m,by rw [o];simpa using q⟩
theorem yg(c:Nat):∀ (d:List (List UInt8)),(∀ p∈d,p.length=c)->d.flatten.length=d.length*c
 | [],_=>by simp
 | p::d,h=>by
  rw [List.flatten_cons,aD,yg c d (fun q e=>h q (zm _ e)),h p (List.mem_cons_self ..),cd,bU]
  omega
end Go.Proofs.YtfpijnhhdfoohaaGreatDoor
