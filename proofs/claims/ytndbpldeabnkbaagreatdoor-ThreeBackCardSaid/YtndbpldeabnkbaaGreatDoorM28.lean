/- Lemmas for ThreeTurned. -/
import Derived.Test.YtndbpldeabnkbaaGreatDoorM23
import Derived.Test.YtndbpldeabnkbaaGreatDoorM17
import Derived.Test.YtndbpldeabnkbaaGreatDoorM15
set_option linter.all false
set_option maxHeartbeats 8000000
set_option maxRecDepth 100000
namespace Go.Proofs.YtndbpldeabnkbaaGreatDoor
open Go.RowKit Go.Fk
abbrev tK(d:Z0)(s:Nat):Nat->Int:=λl=>((if l=0 then 0 else bV d l s:Nat):Int)
theorem Kf:(#[.int .i64 0,.int .i64 0,.int .i64 0,.int .i64 0,.int .i64 0,.int .i64 0,.int .i64 0,.int .i64 0,.int .i64 0,.int .i64 0,.int .i64 0,.int .i64 0,.int .i64 0,.int .i64 0,.int .i64 0,.int .i64 0,.int .i64 0]:Array Value)=bZ 17 (λ_=>0):=rfl
def Lc(x:Nat):IntKind.u16.wrap (x:Int)=((x%65536:Nat):Int):=by
 simp only[IntKind.wrap,IntKind.bits,IntKind.signed];simp
def JI(v:Value)(d:Z0)(w:World)(J:ah w eB v d)(hn:d.length<=300)(a3:∀c∈d,c.toNat<=15):Calls Tryz.prog 234 #[v] w λe w'=>(bX d=true->∃v',e=.returned (.tuple #[v',.int .i64 0])/\Ow w' w.heap.size eU v' (eK d))/\(bX d=false->e=.returned (.tuple #[.slice none 0 0,.int .i64 7]))/\Fr w w':=by
 obtain⟨a,bb,rfl,ds,bB,dv⟩:=J.shape;unfold maxLen at bB;have X:=ad (yT _ d w J hn a3);have bc:=ad (λW h=>Ia (.slice a d.length bb) d W h hn a3);have a4:(bZ 16 (fw d)).size=16:=sj _ _;have bd:=BU 16 (fw d);have bf:(Tryz.prog.info? 374).map (·.size)=some (bZ 16 (fw d)).size:=by rw[a4];kernel_rfl
 cases bk:bX d with
 | false=>rw[bk]at X;go_in;go_wp2_with fail;refine X.out.mono ?_;rintro e w1 ⟨rfl,Y⟩;go_wp2;go_ret2;exact⟨λh=>by simp at h,λ_=>rfl,Y⟩
 | true=>
  rw[bk]at X;go_in;go_wp2_with fail;refine X.out.mono ?_;rintro e w1 ⟨rfl,Y⟩;go_upto_region 4 with fail;have bm:=J.fr Y;have bn:=ad (bc.out w1 bm);have bs:∀l,l<16->(bZ 16 (fw d))[l]?=some (.int .i64 (fw d l)):=λl h=>vT 16 _ l h;have bu:=ad bs;clear bs bc X;generalize bZ 16 (fw d)=R at *;go_wp2_with fail;refine bn.out.mono ?_;rintro e o ⟨rfl,bv⟩;have G:(o.alloc (.cells (bZ 16 (λ_=>0)) 374)).heap[o.heap.size]?=some (.cells (bZ 16 (λ_=>0)) 374 (0,0)):=aB _ _ _ rfl;have ac:Fr o (o.alloc (.cells (bZ 16 (λ_=>0)) 374)):=(Fr.refl o).alloc _;rw[<- zy]at G ac;go_upto_region 5 with(refine fz rfl 374 (.tmp 5) (.tmp 20) rfl o.heap.size R rfl rfl 374 _ G bf (by rw[a4];rfl) bd ?_);have M:=iq _ o.heap.size _ R 374 (0,0) G;have bx:Fr o (World.setRow _ o.heap.size R):=ai.below ac (dl _ o.heap.size R) ac.size (λk hk=>iT hk.symm);generalize bR:World.setRow _ o.heap.size R=D at *;clear bR G ac bd bf a4 bn;have O:=(Y.trans bv).trans bx;have hB:(D.alloc (.cells (bZ 17 (λ_=>0)) 378)).heap[D.heap.size]?=some (.cells (bZ 17 (λ_=>0)) 378 (0,0)):=aB _ _ _ rfl;have Q:Fr D (D.alloc (.cells (bZ 17 (λ_=>0)) 378)):=(Fr.refl D).alloc _;have aj:dW (D.alloc (.cells (bZ 17 (λ_=>0)) 378)) D.heap.size 378 17 (λj=>if j<=1 then((bM d j:Nat):Int)else 0):=by
   unfold dW; rw [hB, BV (f' := fun j => if j ≤ 1 then ((bM d j : Nat) : Int) else 0) fun j _ => by
     show (0 : Int) = _;by_cases h : j ≤ 1;·rw[af h];have : j = 0 ∨ j = 1 := ω;rcases this with rfl | rfl <;> rfl
     · rw[ae h]]
  have h3:=Q.heap M;have d0:o.heap.size<D.heap.size:=(aR.1 M).1;rw[<- Kf]at Q aj h3;clear hB M;go_upto_region 6 with fail;generalize bT:D.alloc (.cells _ 378)=w4 at *;clear bT;have HN:Hid (∀W,ai (λk=>k=D.heap.size) w4 W->∀l,l<16->W.cell? ⟨o.heap.size,l,none⟩=some (.int .i64 (fw d l))):=λW h l hl=>by rw[aK (h.heap h3 ω)];exact bu.out l hl
  have cc:Hid (∀W,ai (λk=>k=D.heap.size) w4 W->ah W eB (.slice a d.length bb) d):=λW h=>
   J.fr (ai.below (O.trans Q) h (O.trans Q).size (λi hi=>by rw[hi];exact O.size))
  have a5:Fr w w4:=O.trans Q;have cf:=O.size;have ch:=aj.lt;have cj:=ad (λl=>GR d l);have ck:=ad (λl h=>ye d l h);have cm:=ad (λl=>qf d l);clear bu h3 J bm Y bv bx O Q;generalize hg:D.heap.size=g at *;clear hg;go_wp2;go_loopw [8] (λK wr=>∃l:Nat,1<=l/\l<=16/\K=N l/\dW wr g 378 17 (λj=>if j<=l then((bM d j:Nat):Int)else 0)/\ai (λk=>k=g) w4 wr) (λK _=>16-(intOf K).toNat);case atStart=>exact⟨1,al _,ω,rfl,aj,ai.refl _ _⟩
  case round=>
   clear aj;obtain⟨l,cq,d3,rfl,z,F⟩:=hrel;by_cases b1:l<16
   ·have d4:(l:Int)<16:=ω;have e1:wr.cell? ⟨g,l,none⟩=some (.int .i64 ((bM d l:Nat):Int)):=z.cell' l ω (af (al _));have e2:wr.cell? ⟨o.heap.size,l,none⟩=some (.int .i64 ((aE d l:Nat):Int)):=(by have:=HN.out wr F l b1;rw[this];simp[fw];omega);have e3:=z.frozen (l+1);have e4:=z.cell (l+1) ω;have d6:bM d l<=40000000:=(by have M:=cj.out l;have U:(2:Nat)^(l+1)<=65536*2:=ay (fp ω (show l+1<=17 by omega)) δ;have h3:d.length*2^(l+1)<=300*(65536*2):=bH hn U;omega);have dE:=cm.out l;have b2:=ad (z.set (l+1) (((2*(bM d l+aE d l):Nat)):Int));have cv:Hid (dW (wr.setCell ⟨g,l+1,none⟩ (.int .i64 (((2*(bM d l+aE d l):Nat)):Int))) g 378 17 (λj=>if j<=l+1 then((bM d j:Nat):Int)else 0)):=b2.out.congr λj hj=>by
     show(if j=l+1 then _ else if j<=l then _ else _)=_;by_cases h:j=l+1;·subst h;rw[af rfl,af (al _),ck.out l cq]
     ·rw[ae h];by_cases U:j<=l;·rw[af U,af ω]
      ·rw[ae U,ae ω]
    clear b2;generalize aE d l=cl,bM d l=V at *;have i1:(0:Int)<=l:=ω;have i2:l<16:=b1;have i3:(0:Int)<=(l:Int)+1:=ω;have i4:(l:Int)+1<17:=ω;have i5:(l:Int)<17:=ω;have dT:IntKind.i64.wrap ((V:Int)+cl)=((V+cl:Nat):Int):=(by rw[ax _ ω];omega);have ec:IntKind.i64.wrap (((V+cl:Nat):Int)*2)=((2*(V+cl):Nat):Int):=(by rw[ax _ ω];omega);generalize c7:2*(V+cl)=mu at *;generalize cA:V+cl=su at *;have el:mu<=90000000:=ω;have eq:o.heap.size≠g:=ω;clear c7 cA;go_upto_region 9 with fail;go_region;all_goals go_wp2_with fail
    all_goals go_roundw
    case rel=>exact⟨l+1,ω,ω,γ,cv.out.fr (Fr.drew (Fr.refl _)),F.trans ((a9 wr ⟨g,l+1,none⟩ _).trans ((Fr.drew (Fr.refl _)).chg (λk=>k=g)) (λ_ _ h=>h)) (λ_ _ h=>h)⟩
    case measure=>exact μ
   ·obtain rfl:l=16:=ω;have er:¬(16:Int)<16:=ω;have av:dW wr g 378 17 (tK d 0):=z.congr λj hj=>by
     show(if j<=16 then _ else _)=_;rw[af ω];show((bM d j:Nat):Int)=((if j=0 then 0 else bV d j 0:Nat):Int);by_cases h:j=0;·subst h;rfl
     ·rw[ae h,KG]
    have cB:=oQ eU rfl rfl 181 Tryz.underlying181 .i64 .i64 d.length ω;have b3:=ad (pT (base:=w4.heap.size) eU rfl rfl d.length ω wr F.size);have a7:Fr wr (wr.alloc (.cells (madeCells #[eU.z] d.length) eU.e)):=(Fr.refl wr).alloc _;have b4:=av.fr a7;have b5:=F.trans (a7.chg (λk=>k=g)) (λ_ _ h=>h);have es:=F.size;have a0:=oi d;have cE:=ad (λs h=>vJ d s h);have cF:=ad (λl s h=>CY d l s h);have cG:=ad (λl s h=>KH d l s h hn);rw[show(eU:aw Tryz.prog Nat).e=64 from rfl]at *;generalize madeCells #[eU.z] d.length=T0 at *;go_wp2_with fail;generalize cN:wr.alloc (.cells T0 64)=w5 at *;clear cN a7 z av F;generalize cR:wr.heap.size=q at *;clear cR;have b6:=b3.out;clear b3 cB;go_loopw [42] (λK wr=>∃s:Nat,s<=d.length/\K=N s/\dW wr g 378 17 (tK d s)/\Ow wr w4.heap.size eU (.slice (some ⟨q,0,none⟩) d.length d.length) ((eK d).take s++List.replicate (d.length-s) 0)/\ai (λk=>k=g) w4 wr) (λK _=>d.length-(intOf K).toNat);case atStart=>exact⟨0,ar _,rfl,b4,by simp only[lj,fJ,wk];exact b6,b5⟩
    case round=>
     clear b4 b5 b6;obtain⟨s,J,rfl,z,L,F⟩:=hrel;by_cases I:s<d.length
     ·obtain⟨b,e0,e5,hv,c0⟩:=(cc.out wr F).cell1 (λc=>Fk.u8 c) rfl s I;have e7:=a3 _ (bJ I);have a1:=ad (cE.out s I);have Z:=ad (λl=>cF.out l s I);have hz:d[s]=0↔d[s].toNat=0:=⟨λe=>by rw[e];rfl,λe=>eP.1 (by simpa using e)⟩;generalize d[s]=c at *;cases hv;have b8:((eK d).take s++List.replicate (d.length-s) 0).length=d.length:=vF _ _ _ _ a0 J;have a2:=ad (λx hx=>vE (eK d) 0 d.length s a0 I x hx);generalize e8:c.toNat=m at *;have i1:(0:Int)<=s:=ω;have i2:(s:Int)<d.length:=ω;by_cases aa:m=0
      ·have dc:¬(0:Int)<m:=ω;have av:dW wr g 378 17 (tK d (s+1)):=z.congr λj hj=>by
        show((if j=0 then 0 else bV d j s:Nat):Int)=((if j=0 then 0 else bV d j (s+1):Nat):Int);by_cases h:j=0;·rw[af h,af h]
        ·rw[ae h,ae h,Z.out j,ae ω];rfl
       have aC:Hid (Ow wr w4.heap.size eU (.slice (some ⟨q,0,none⟩) d.length d.length) ((eK d).take (s+1)++List.replicate (d.length-(s+1)) 0)):=(by have M:=a2.out 0 (by rw[a1.out,af (hz.2 aa)]);show Ow _ _ _ _ _;rw[<- M];have U:((eK d).take s++List.replicate (d.length-s) 0).set s 0=(eK d).take s++List.replicate (d.length-s) 0:=(by rw[Cv _ _ (by rw[aA];omega),show d.length-s=(d.length-(s+1))+1 by omega,wz];have:s-((eK d).take s).length=0:=(by rw[aA];omega);rw[this];rfl);rw[U];exact L);clear a2 a1 Z L z;subst aa;go_wp2;go_roundw;case rel=>exact⟨s+1,ω,γ,av,aC.out,F⟩
       case measure=>exact μ
      ·have dc:(0:Int)<m:=ω;have e9:=cG.out m s ω;have e1:wr.cell? ⟨g,m,none⟩=some (.int .i64 ((bV d m s:Nat):Int)):=z.cell' m ω (by simp[tK,aa]);have e2:=z.frozen m;obtain⟨d1,d2⟩:=L.cellAt (λn:Nat=>Value.int .u16 (n:Int)) rfl s (by rw[b8];exact I);have ba:=ad (L.set (λn:Nat=>Value.int .u16 (n:Int)) rfl s (by rw[b8];exact I) (bV d m s%65536) (.int .u16 ((bV d m s%65536:Nat):Int)) rfl);have b9:(eK d)[s]'(by rw[a0];exact I)=bV d m s%65536:=(by rw[a1.out,ae (λe=>aa (hz.1 e))]);rw[a2.out _ b9]at ba;have bA:=ad ((z.chg (a9 wr ⟨q,s,none⟩ (.int .u16 ((bV d m s%65536:Nat):Int))) (by show ¬g=q;omega)).set m (((bV d m s:Nat):Int)+1));have di:Hid (dW ((wr.setCell ⟨q,s,none⟩ (.int .u16 ((bV d m s%65536:Nat):Int))).setCell ⟨g,m,none⟩ (.int .i64 (((bV d m s:Nat):Int)+1))) g 378 17 (tK d (s+1))):=bA.out.congr λj hj=>by
        show(if j=m then _ else((if j=0 then 0 else bV d j s:Nat):Int))=((if j=0 then 0 else bV d j (s+1):Nat):Int);by_cases h:j=m;·rw[af h,ae ω,Z.out j,af h.symm,h];rfl
        ·rw[ae h];by_cases G:j=0;·rw[af G,af G]
         ·rw[ae G,ae G,Z.out j,ae (iG h)];rfl
       have aC:=ad (eu (r:=g) (i:=m) (u:=.int .i64 (((bV d m s:Nat):Int)+1)) ba.out ch)
       have dj:Hid (ai (λk=>k=g) w4 ((wr.setCell ⟨q,s,none⟩ (.int .u16 ((bV d m s%65536:Nat):Int))).setCell ⟨g,m,none⟩ (.int .i64 (((bV d m s:Nat):Int)+1)))):=
        (F.trans (a9 wr ⟨q,s,none⟩ _) (λi hi e=>by exfalso;have:i=q:=e;omega)).trans (a9 _ ⟨g,m,none⟩ _) (λ_ _ h=>h)
       have hu:=Lc (bV d m s)
       have e3:(wr.setCell ⟨q,s,none⟩ (.int .u16 ((bV d m s%65536:Nat):Int))).cell? ⟨g,m,none⟩=some (.int .i64 ((bV d m s:Nat):Int)):=
        ((z.chg (a9 wr ⟨q,s,none⟩ (.int .u16 ((bV d m s%65536:Nat):Int))) (by show ¬g=q;omega))).cell' m ω (by simp[tK,aa])
       clear ba bA a2 Z a1 z L F b9;generalize bV d m s=vv,bV d m s%65536=vm at *;have i3:(0:Int)<=m:=ω;have i4:(m:Int)<17:=ω;have i5:m<17:=ω;have i6:q≠g:=ω;have i7:g≠q:=ω;go_wp2;go_roundw;case rel=>exact⟨s+1,ω,γ,di.out,aC.out,dj.out⟩
       case measure=>exact μ
     ·obtain rfl:s=d.length:=ω;have fk:¬(d.length:Int)<d.length:=ω;have e:(eK d).take d.length++List.replicate (d.length-d.length) 0=eK d:=(by rw[fY,ww,dg,<- a0,dY]);rw[e]at L;go_wp2;go_ret2;refine⟨⟨_,rfl,L.rebase a5.size⟩,ai.below a5 F a5.size (λi hi=>by rw[hi];exact cf)⟩
structure ed (w:World) (base g:Nat) (lens:Z0) (s:Nat) (c:Nat->Value):Prop where
 arr:io w g 298 50 c
 own0:Ow w base eB (c 0) lens
 own1:Ow w base eU (c 1) (eK lens)
 first:∀l,1<=l->l<16->c (2+l)=N (fM lens s l)
 many:∀l,1<=l->l<16->c (18+l)=N (aE (lens.take s) l)
 syms:∀l,1<=l->l<16->Ow w base eJ (c (34+l)) (sM lens s l)
 apart:∀j k,1<=j->j<16->1<=k->k<16->j≠k->(c (34+j)).ownBlock=none\/(c (34+j)).ownBlock≠(c (34+k)).ownBlock
 up:base<=g
def Sa{U w V w4:World}{base g s d:Nat}{z:Z0}{c c2:Nat->Value}{v':Value}(m:ed w base g z s c)(hf:Fr U w)(ak:U.heap.size<=base)(hg:base<=g)(X:s<z.length)(Y:z[s].toNat=d)(h1:1<=d)(h2:d<16)
  (hA:io V g 298 50 c2) (hch:ai (λk=>k=g) w V) (e1:c2 (2+d)=N (bM z d%65536)) (e2:c2 (18+d)=N (aE (z.take s) d+1))
  (e3:∀i,i≠2+d->i≠18+d->c2 i=c i) (hap:dw base eJ (sM z s d++[s]) V (c (34+d)) v' w4) :
  ed (w4.setCell ⟨g,34+d,none⟩ v') base g z (s+1) (λj=>if j=34+d then v' else c2 j)/\Fr U (w4.setCell ⟨g,34+d,none⟩ v'):=by
 have av:=m.syms d h1 h2;have J:=av.keepG m.arr δ hch;have I:=hA.chg hap.chg' (λe=>J.ne_cells hA δ e);have K:=a9 w4 ⟨g,34+d,none⟩ v';refine⟨⟨I.set _ _,?_,?_,?_,?_,?_,?_,hg⟩,?_⟩;·rw[ae ω,e3 0 ω ω];have o:=m.own0.keepG m.arr δ hch;exact(hap.other o (kL o J δ)).keepG I δ K
 ·rw[ae ω,e3 1 ω ω];have o:=m.own1.keepG m.arr δ hch;exact(hap.other o (kL o J δ)).keepG I δ K
 ·intro l F G;rw[ae ω,GW z s l X,Y];by_cases e:l=d;·subst e;rw[af rfl,e1]
  ·rw[ae (λh=>e h.symm),e3 _ ω ω];exact m.first l F G
 ·intro l F G;rw[ae ω,qe z s l X,Y];by_cases e:l=d;·subst e;rw[af rfl,e2]
  ·rw[ae (λh=>e h.symm),e3 _ ω ω];exact m.many l F G
 ·intro l F G;rw[xj z s l X,Y];by_cases e:l=d;·subst e;rw[af rfl,af rfl];exact hap.own.keepG I δ K
  ·rw[ae ω,ae (λh=>e h.symm),dg,e3 _ ω ω];have o:=(m.syms l F G).keepG m.arr δ hch;exact(hap.other o (m.apart l d F G h1 h2 e)).keepG I δ K
 ·intro j k L M O Q Z;by_cases e:j=d
  ·subst e;rw[af rfl,ae ω,e3 _ ω ω]
   cases hv:v'.ownBlock with
   | none=>exact .inl rfl
   | some b=>
    refine .inr λR=>?_;rcases hap.fresh b hv with h | h
    ·rcases m.apart j k L M O Q Z with D | D;·rw[D]at h;cases h
     ·exact D (h.trans R)
    ·have o:=(m.syms k O Q).keepG m.arr δ hch;have:=(o.lt b R.symm).2;omega
  ·rw[ae ω,e3 _ ω ω];by_cases e':k=d
   ·subst e';rw[af rfl]
    cases hv:v'.ownBlock with
    | none=>
     cases a1:(c (34+j)).ownBlock with
     | none=>exact .inl rfl
     | some b=>exact .inr σ
    | some b=>
     rcases hap.fresh b hv with h | h
     ·rcases m.apart j k L M O Q Z with D | D;·exact .inl D
      ·exact .inr (by rw[<- h];exact D)
     ·refine .inr λR=>?_;have o:=(m.syms j L M).keepG m.arr δ hch;have:=(o.lt b R).2;omega
   ·rw[ae ω,e3 _ ω ω];exact m.apart j k L M O Q Z
 ·have o:=ai.below hf hch hf.size (λi e=>by omega);exact ep (hap.below J o ak o.size) ω (ay o.size hap.size)
def ku(u v:Value)(i:Nat):Value:=if i=0 then u else if i=1 then v else if i<34 then N 0 else .slice none 0 0
def J9(v:Value)(d:Z0)(w:World)(Q:ah w eB v d)(hn:d.length<=300)(b0:∀c∈d,c.toNat<=15)(cB:bX d=true):Calls Tryz.prog 194 #[v] w λe w'=>∃g c,e=.returned (.tuple #[.pointer (some ⟨g,0,none⟩),.int .i64 0])/\ed w' w.heap.size g d d.length c/\Fr w w':=by
 have HC:=ad (JI _ d w Q hn b0);have HS:=ad (λW (h:Fr w W)=>Q.fr h);obtain⟨a,cF,rfl,f3,cG,f4⟩:=Q.shape;unfold maxLen at cG;clear Q;have cL:=ad (λW (h:ah W eB _ d)=>lE (.slice a d.length cF) d W h ω);go_in;go_wp2_with fail;refine HC.out.mono ?_;rintro e w1 ⟨ht,_,R⟩;obtain⟨cv,rfl,b4⟩:=ht cB;obtain⟨ca,cc,b7⟩:=b4.shape';rw[oi]at b7;subst b7;have cR:=ad (cL.out w1 (HS.out w1 R));go_wp2_with fail;refine cR.out.mono ?_;rintro e z ⟨lv,rfl,b8,ab⟩;obtain⟨la,lc,cT⟩:=b8.shape';subst cT;go_wp2;go_loopw [25] (λiv wr=>∃(s:Nat) (c:Nat->Value),s<=d.length/\iv=N s/\ed wr w.heap.size z.heap.size d s c/\Hid (c 0=.slice la d.length lc/\c 1=.slice ca d.length cc)/\Fr w wr) (λiv _=>d.length-(intOf iv).toNat)
 case atStart=>
  refine⟨0,ku (.slice la d.length lc) (.slice ca d.length cc),ar _,rfl,⟨?_,?_,?_,?_,?_,?_,?_,?_⟩,⟨rfl,rfl⟩,((R.trans ab).alloc _)⟩;·exact aB _ _ _ rfl
  ·exact(b8.rebase R.size).fr ((Fr.refl z).alloc _)
  ·exact(b4.fr ab).fr ((Fr.refl z).alloc _)
  ·intro l F G;rw[SY];unfold ku;rw[ae ω,ae ω,af ω]
  ·intro l F G;rw[lj,tR];unfold ku;rw[ae ω,ae ω,af ω]
  ·intro l F G;rw[Nv];unfold ku;rw[ae ω,ae ω,ae ω];exact Ow.nil
  ·intro j k F G _ _ _;unfold ku;rw[ae ω,ae ω,ae ω];exact .inl rfl
  ·exact ay R.size ab.size
 case round=>
  obtain⟨s,c,da,rfl,D,U,M⟩:=hrel;by_cases I:s<d.length
  ·obtain⟨b,dc,f7,hv,c0⟩:=qi (HS.out wr M) s I;have f9:=b0 _ (bJ I);have hz:=ad (zJ d[s]);have ap:=ad (λl=>qe d s l I);have bB:=ad (λl=>xj d s l I);have av:=ad (λl=>GW d s l I);have a0:=ad (SG d s I);have bL:=ad (SE d s);generalize hc:d[s]=x at *;cases hv;replace c0:wr.cell? ⟨b,dc+s,none⟩=some (.int .u8 ((x.toNat:Nat):Int)):=c0;generalize a6:x.toNat=o at *;have i1:(0:Int)<=s:=ω;have i2:(s:Int)<d.length:=ω;by_cases hx:o=0
   ·subst hx;have HN:Hid (ed wr w.heap.size z.heap.size d (s+1) c):=by
     refine⟨D.arr,D.own0,D.own1,λl F G=>?_,λl F G=>?_,λl F G=>?_,D.apart,D.up⟩;·rw[av.out,ae ω];exact D.first l F G
     ·rw[ap.out,ae ω];exact D.many l F G
     ·rw[bB.out,ae ω,dg];exact D.syms l F G
    clear ap bB av a0 bL hz a6;go_wp2;go_roundw;case rel=>exact⟨s+1,c,ω,γ,HN.out,U,M⟩
    case measure=>exact μ
   ·have i3:(0:Int)<o:=ω;have i4:(o:Int)<16:=ω;have i5:¬(o:Int)=0:=ω;have V:o<16:=ω;have dv:x≠0:=λe=>hx (hz.out.1 e);have aC:=ad D;have d0:=ad (show d[s].toNat=o by rw[hc,a6]);clear hz a6;obtain⟨K,bR,ba,hF,hM,bT,cb,d1⟩:=D;have fQ:((o:Int) == 0)=false:=(by simp[hx]);have cf:c (18+o)=N (aE (d.take s) o):=hM o ω V;have ch:c (2+o)=N (fM d s o):=hF o ω V;have bc:=K.cell (18+o) ω cf;have f2:=K.frozen (2+o);have k2:=K.cell (2+o) ω ch;have bd:=ba.see;rw[U.out.2]at bd;have bf:s<(eK d).length:=(by rw[oi];exact I);obtain⟨b1,d5,cap1,cj,J⟩:=bd.cell1 (λn=>Value.int .u16 (n:Int)) rfl s bf;have fS:=Ij d s bf;have d6:IntKind.i64.wrap (((eK d)[s]:Nat):Int)=(((eK d)[s]:Nat):Int):=ax _ ω;have bk:=ad (λh=>a0.out dv h);generalize hq:(eK d)[s]=q at *;rw[oi]at cj;cases cj;replace J:wr.cell? ⟨b1,d5+s,none⟩=some (.int .u16 (q:Int)):=J;have ga:=qf (d.take s) o;have gb:(d.take s).length<=300:=(by rw[aA];omega);have dT:=ad (ap.out o);have ec:=ad (av.out o);have bl:=ad (bL.out o);clear hq a0 bf;generalize hm:aE (d.take s) o=m at *;generalize fM d s o=f at *;have HA:=ad K;have HH:=ad (And.intro bR (And.intro ba (And.intro hF (And.intro hM (And.intro bT cb)))));have eq:=ad hm;clear bR ba hF hM bT cb bd hm;have er:((m:Int) == 0)=decide (m=0):=(by by_cases h:m=0 <;> simp[h]);have cl:Hid (decide (m=0)=true->m=0):=λh=>(by simpa using h);have cm:Hid (decide (m=0)=false->m≠0):=λh=>(by simpa using h);generalize decide (m=0)=bm at *;go_upto_if 38 with fail;go_cut []from 39 to 48 (λwx=>∃J,io wx z.heap.size 298 50 J/\J (2+o)=N (bM d o%65536)/\(∀i,i≠2+o->J i=c i)/\ai (λk=>k=z.heap.size) wr wx)
    case first=>
     cases bm;·have bn:=ad (bl.out (cm.out (by first | rfl | trivial)));go_wp2;go_meet;exact⟨c,K,by rw[ch,bn.out],λ_ _=>rfl,ai.refl _ _⟩
     ·have bn:=ad (bk.out (cl.out (by first | rfl | trivial)));clear bk ec bl dT;go_wp2;go_region;all_goals go_wp2_with fail
      all_goals go_meet
      exact⟨_,(K.set (2+o) (.int .i64 (q:Int))).drew,by rw[af rfl,bn.out],λi hi=>ae hi,(a9 wr ⟨_,2+o,none⟩ _).trans ((Fr.drew (Fr.refl _)).chg (λk=>k=z.heap.size)) (λ_ _ h=>h)⟩
    case rest=>
     generalize e0:wc=wd at *;clear e0;obtain⟨J,X,e1,O,cq⟩:=hcut;clear bk bl cl cm f2 k2 bc d6 er;have e2:J (18+o)=N m:=(by rw[O _ ω,cf]);have bc:=X.cell (18+o) ω e2;have e5:=X.frozen (18+o);have gc:IntKind.i64.wrap ((m:Int)+1)=((m+1:Nat):Int):=(by rw[ax _ ω];omega);have Y:=ad ((X.set (18+o) (.int .i64 ((m:Int)+1))).drew);have bu:Hid (ai (λk=>k=z.heap.size) wr (wd.setCell ⟨z.heap.size,18+o,none⟩ (.int .i64 ((m:Int)+1))).drew):=(cq.trans (a9 wd ⟨_,18+o,none⟩ _) (λ_ _ h=>h)).trans ((Fr.drew (Fr.refl _)).chg (λk=>k=z.heap.size)) (λ_ _ h=>h);go_upto_region 11 with fail;go_region;all_goals go_wp2_with fail
     generalize e6:(wd.setCell ⟨z.heap.size,18+o,none⟩ (.int .i64 ((m:Int)+1))).drew=L at *;clear e6 bc e5 X cq c0;have e7:=ad (λc2 v' w4 a1 a2 a3 a4 (a5:io L z.heap.size 298 50 c2)=>Sa (w4:=w4) (v':=v') (c2:=c2) aC.out M (al _) d1 I d0.out ω V a5 bu.out a1 a2 a3 a4);have cs:=aC.out.syms o ω V;have ct:=Af d s o da;have fc:=qf (d.take s) o;have Z:=cs.keepG aC.out.arr δ bu.out;obtain⟨sa,sc,bv⟩:=Z.shape';have cu:L.cell? ⟨z.heap.size,34+o,none⟩=some (c (34+o)):=Y.out.cell (34+o) ω (by rw[ae ω,O _ ω]);have hD:=Z.drew;have c3:w.heap.size<=L.heap.size:=ay M.size bu.out.size;have fe:Hid (w.heap.size<=L.drew.heap.size):=c3;have c4:Fr L (L.alloc (.cells #[.int .i64 (s:Int)] 3)):=(Fr.refl L).alloc _;have fh:=c4.cell cu;have fk:Hid ((sM d s o).length+[s].length<=2147483648):=(by show _<=_;rw[ct];simp;omega);have c5:=Z.ne_cells Y.out δ;have fl:=Y.out;rw[bv]at hD cu fh c5;have fm:=ad bv;generalize gi:sM d s o=m9 at *;clear c4 cs Z ct fc bv c3 HA HH K;go_upto_region 12 with fail
     go_region_law (refine xf eJ rfl (.tmp 66) (.tmp 68) 56 rfl Tryz.underlying56 w.heap.size rfl hD [s] _ _ _ rfl rfl rfl fk.out fe.out ?_
                    intro v' w4 aa
                    have fn := aa.own
                    have c6 := ad aa
                    obtain ⟨va, vc, fv⟩ := fn.shape'
                    have k0 := fl.chg aa.chg' (λe => c5 e)
                    have e3 := k0.cell (34 + o) ω rfl
                    have e4 := k0.frozen (34 + o)
                    clear aa
                    subst fv)
     all_goals (go_wp2_with fail
                rw[show (m9 ++ [s]).length = m9.length + 1 by simp] at c6
                have c8 := e7.out _ (.slice va (m9.length + 1) vc) w4 (by rw[ae ω, e1]) (by rw[af rfl, eq.out]; rfl) (λi j1 j2 => by rw[ae j2, O i j1]) (by rw[fm.out]; exact c6.out) Y.out
                go_roundw
                case rel => exact ⟨s + 1, _, by omega, by go_num, c8.1, ⟨by rw[ae ω, ae ω, O _ ω]; exact U.out.1, by rw[ae ω, ae ω, O _ ω]; exact U.out.2⟩, c8.2⟩
                case measure => simp[intOf]; omega)
  ·obtain rfl:s=d.length:=ω;have g0:¬(d.length:Int)<d.length:=ω;go_wp2;go_ret2;exact⟨_,rfl,⟨c,D⟩,M⟩
def X4(v:Value)(d:Z0)(w:World)(h:ah w eB v d)(m:d.length<=300)(o:∀c∈d,c.toNat<=15)(z:bX d=false):Calls Tryz.prog 194 #[v] w λe w'=>e=.returned (.tuple #[.pointer none,.int .i64 7])/\Fr w w':=by
 have D:=ad (JI _ d w h m o);clear h;go_in;go_wp2_with fail;refine D.out.mono ?_;rintro e I ⟨_,F,G⟩;obtain rfl:=F z;go_wp2;go_ret2;exact⟨rfl,G⟩
def Sb(d:Z0)(base g n s:Nat)(c:Nat->Value)(w:World)(h:ed w base g d n c)(K:d.length<=300)(L:s<=1000000):Calls Tryz.prog 235 #[.pointer (some ⟨g,0,none⟩),N s] w λe w'=>e=.returned (N (bg d s))/\w'=w:=by
 have m:=h.own0.see;obtain⟨a,M,o,O,F,Q⟩:=m.shape;have R:=h.arr.cell 0 ω o;unfold maxLen at F;have U:¬(s:Int)<0:=ω
 by_cases z:s<d.length;·rw[o]at m;obtain⟨b,G,V,I,D⟩:=qi m s z;cases I;rw[nN d s z];generalize d[s]=x at *;replace D:w.cell? ⟨b,G+s,none⟩=some (.int .u8 ((x.toNat:Nat):Int)):=D;have X:x.toNat<256:=x.toNat_lt;generalize x.toNat=Y at *;have J:¬(d.length:Int)<=s:=ω;have Z:(s:Int)<d.length:=ω;clear h m o;go_in;go_wp2;go_ret;exact⟨rfl,rfl⟩
 ·rw[uK d s ω];have J:(d.length:Int)<=s:=ω;clear h m o;go_in;go_wp2;go_ret;exact⟨rfl,rfl⟩
def X5(d:Z0)(base g n s:Nat)(c:Nat->Value)(w:World)(h:ed w base g d n c)(m:d.length<=300)(o:s<=1000000):Calls Tryz.prog 195 #[.pointer (some ⟨g,0,none⟩),N s] w λe w'=>e=.returned (N (bg d s))/\w'=w:=by
 have z:=ad (Sb d base g n s c w h m o);have D:=h.arr.cell 0 ω rfl;clear h;go_in;go_wp2_with fail;refine z.out.mono ?_;rintro e F ⟨rfl,rfl⟩;go_wp2;go_ret;exact⟨rfl,rfl⟩
def X1(x v:Value)(w:World):Calls Tryz.prog 153 #[.pointer none,x,v] w λe w'=>e=.returned (.int .i64 7)/\Fr w w':=by
 go_in;go_wp2;go_ret;exact⟨rfl,Fr.refl w⟩
def X3(d:Z0)(L g2 n s:Nat)(c:Nat->Value)(base g:Nat)(T:TypeId)(rest:List Value)(z:Value)(l:Z0)(w:World)(h:ed w L g2 d n c)(D:cM w base g T rest z l)
  (M:d.length<=300) (h15:∀c∈d,c.toNat<=15) (hok:bX d=true) (hs:s<=1000000) (hl:l.length<=900000000) (hsz:base<=w.heap.size) :
  Calls Tryz.prog 153 #[.pointer (some ⟨g2,0,none⟩),.pointer (some ⟨g,0,none⟩),N s] w λe w'=>e=.returned (.int .i64 (if bg d s=0 then 13 else 0))/\∃o,cM w' base g T rest o (l++jb d s)/\bw g z o w w':=by
 have K:=ad (λW h=>X5 d L g2 n s c W h M hs);have X:=ad (λk=>(⟨h.arr.fr ((Fr.refl w).drewN k),h.own0.fr ((Fr.refl w).drewN k),h.own1.fr ((Fr.refl w).drewN k),h.first,h.many,λl a b=>(h.syms l a b).fr ((Fr.refl w).drewN k),h.apart,h.up⟩:ed (w.drewN k) L g2 d n c));have ak:=ad (λx n M hx o m W D hm hb=>yD x n M hx base g T rest o m W D hm hb);have O:=ad (K.out w h);have Y:=ad (λk=>K.out (w.drewN k) (X.out k));have Q:=h.own0.see;have I:=h.own1.see;obtain⟨a,bm,R,bn,a2,bs⟩:=Q.shape;obtain⟨a1,cap1,J,a3,a4,bx⟩:=I.shape;have k0:=h.arr.cell 0 ω R;have k1:=h.arr.cell 1 ω J;unfold maxLen at a2 a4;by_cases F:bg d s=0;·rw[af F,IJ d s F,dg];rw[F]at O;clear h K X Y Q I R J;go_in;go_upto_region 3 with fail;go_wp2_with fail;refine O.out.mono ?_;rintro e U ⟨rfl,rfl⟩;go_wp2;go_ret;exact⟨rfl,z,D,bw.refl g z _⟩
 ·rw[ae F,tW d s F];have G:s<d.length:=by
   by_cases h:s<d.length;·exact h
   ·exact absurd (uK d s ω) F
  have a6:d[s]≠0:=λe=>F (by rw[nN d s G,e];rfl);have Z:=Uu d hok h15 s G a6;have aa:s<(eK d).length:=(by rw[oi];exact G);have b3:=Ij d s aa;have a7:=h15 _ (bJ G);rw[J]at I;obtain⟨b1,ba,b4,ab,c1⟩:=I.cell1 (λn=>Value.int .u16 (n:Int)) rfl s aa;rw[Ih d s G];rw[<- nN d s G]at Z a7;generalize hq:(eK d)[s]=q at *;generalize bc:bg d s=V at *;rw[oi]at J ab k1 a3;cases ab;replace c1:w.cell? ⟨b1,ba+s,none⟩=some (.int .u16 (q:Int)):=c1;have i2:(s:Int)<d.length:=ω;have i3:(0:Int)<=s:=ω;have b7:IntKind.u64.wrap (q:Int)=(q:Int):=dF _ ω;have b8:¬(V:Int)=0:=ω;have b9:((V:Int) == 0)=false:=(by simp;omega);have aj:cM w.drew base g T rest z l:=⟨((Fr.refl w).drewN 1).heap D.1,D.2.1.drew,D.2.2⟩;have HP:=ad (ak.out q V ω Z z l w.drew aj ω hsz);have bf:Hid (∀o w',bw g z o w.drew w'->bw g z o w w'):=λo w' h=>bw.fr ((Fr.refl w).drewN 1) h;clear h K Q I R J hq bc aj D;go_in;go_upto_region 3 with fail;go_wp2_with fail;refine O.out.mono ?_;rintro e U ⟨rfl,rfl⟩;go_upto_region 5 with fail
  go_region_with (first
    | (go_at_call 195; refine ((Y.out 1).mono ?_); rintro e U ⟨rfl, rfl⟩)
    | (go_at_call 116; refine HP.out.mono ?_; rintro e U ⟨rfl, o, bk, bl⟩))
  all_goals go_wp2_with fail
  all_goals go_ret
  all_goals exact⟨rfl,o,bk,bf.out _ _ bl⟩
def Xt(v:Value)(d:Z0)(b2:Nat)(base g:Nat)(T:TypeId)(hT:T≠(eB:aw Tryz.prog UInt8).e)(rest:List Value)(F:Value)(l:Z0)(w:World)(h:cM w base g T rest F l)
  (hs:Ow w b2 eB v d) (hap:v.ownBlock=none\/v.ownBlock≠F.ownBlock) (hn:d.length<=300) (h15:∀c∈d,c.toNat<=15) (hok:bX d=true) (hl:l.length<=900000000) (hsz:base<=w.heap.size) :
  Calls Tryz.prog 193 #[.pointer (some ⟨g,0,none⟩),v] w λe w'=>e=.returned (.int .i64 0)/\∃o,cM w' base g T rest o (l++dr d)/\bw g F o w w':=by
 obtain⟨a,cl,rfl,d0,cm,d1⟩:=hs.see.shape;unfold maxLen at cm;have b5:=ad (yT _ d w hs.see hn h15);rw[hok]at b5;have cp:=hs.ne_cells h.1 hT
 have b6:Hid (∀W o,bw g F o w W->ah W eB (.slice a d.length cl) d):=λW o G=>
  (hs.chg G.1 fun k Q e => by
    rcases e with e | e
    · rw[e] at Q; exact cp Q
    · rcases hap with h1 | h1
      · rw[h1] at Q; cases Q
      · exact h1 (Q.trans e.symm)).see
 have a0:=ad (λx n hn hx o m W J hm hb=>yD x n hn hx base g T rest o m W J hm hb);have d2:=ad (CP d.length d (al _));go_in;go_wp2_with fail;refine b5.out.mono ?_;rintro e w1 ⟨rfl,a4⟩;have cu:Hid (bw g F F w w1):=(bw.refl g F w).frR a4;have c1:Hid (cM w1 base g T rest F l):=⟨a4.heap h.1,h.2.1.fr a4,h.2.2⟩;clear h hs;go_wp2;go_loopw [6] (λiv wr=>∃(i:Nat) (o:Value) (m:Z0),i<=d.length/\iv=N i/\cM wr base g T rest o m/\bw g F o w wr/\m.length<=l.length+10*i/\Hid (l++dr d=m++dr (d.drop i))) (λiv _=>d.length-(intOf iv).toNat);case atStart=>exact⟨0,F,l,ar _,rfl,c1.out,cu.out,ω,rfl⟩
 case round=>
  obtain⟨i,o,m,hi,rfl,J,G,d4,R⟩:=hrel;have b8:=ay hsz G.1.size;by_cases a6:i<d.length
  ·obtain⟨b,a7,d5,hv,c0⟩:=qi (b6.out wr o G) i a6;have d6:=h15 _ (bJ a6);have X:=ad (zJ d[i]);have Y:=ad (gE a6);generalize hc:d[i]=c at *;cases hv;replace c0:wr.cell? ⟨b,a7+i,none⟩=some (.int .u8 ((c.toNat:Nat):Int)):=c0;have aC:Hid (c≠0->l++dr d=(m++bP c.toNat 4)++dr (d.drop (i+1))):=λh0=>(by rw[R.out,Y.out,wR _ _ h0];simp);have bb:Hid (c=0->l++dr d=(m++bP 0 4)++(bP (dh (d.drop (i+1)) 63) 6++dr (d.drop (i+(dh (d.drop (i+1)) 63+1))))):=λh0=>(by rw[R.out,Y.out,wQ _ _ h0,lk];simp[jq,oq]);generalize c.toNat=I at *;have i1:(0:Int)<=i:=ω;have i2:(i:Int)<d.length:=ω;have bA:=fX I 4;by_cases bc:I=0
   ·have c5:¬(0:Int)<I:=ω;have bB:=ad (bb.out (X.out.2 bc));clear aC bb Y X R;subst bc;have bL:=fX 0 4;go_wp2_with fail;generalize wr=z at *;go_loopw [7] (λnv wr=>∃n:Nat,1<=n/\n<=64/\i+n<=d.length/\nv=N n/\Hid (dh (d.drop (i+1)) 63+1=n+dh (d.drop (i+n)) (64-n))/\∃q,wr=z.drewN q) (λnv _=>64-(intOf nv).toNat);case atStart=>exact⟨1,al _,ω,ω,rfl,oq _ _,0,rfl⟩
    case round=>
     obtain⟨n,ef,el,eq,rfl,U,q,rfl⟩:=hrel;have n1:(1:Int)<=n:=ω;obtain⟨Z,hZ⟩:∃Z,Z=dh (d.drop (i+n)) (64-n):=⟨_,rfl⟩;rw[<- hZ]at U;have O:=ad hZ;clear hZ;generalize V:z.drewN q=wq at *;go_upto_region 12 with fail;go_cut [51]from 33 to 51 (λcv wx=>cv=.bool (decide (0<Z))/\Hid (0<Z->n<64/\i+n<d.length/\Z=dh (d.drop (i+(n+1))) (64-(n+1))+1)/\∃q,wx=z.drewN q)
     case first=>
      by_cases c8:n<64
      ·have k1:(n:Int)<64:=ω;by_cases aa:i+n<d.length
       ·have k2:(i:Int)+n<d.length:=ω;obtain⟨b',ev,e0,cE,c3⟩:=qi (b6.out z o G) (i+n) aa;have cF:=ad (zJ d[i+n]);have bm:=ad (JZ d (i+n) (63-n) aa);have bn:=ad (Ka d (i+n) (64-n) aa);generalize e1:d[i+n]=K at *;cases cE;replace c3:z.cell? ⟨b,a7+(i+n),none⟩=some (.int .u8 ((K.toNat:Nat):Int)):=c3;have e2:wq.cell? ⟨b,a7+(i+n),none⟩=some (.int .u8 ((K.toNat:Nat):Int)):=(by rw[<- V];exact c3);by_cases ab:K=0;·have bs:K.toNat=0:=(by rw[ab];rfl);have D:Hid (Z=dh (d.drop (i+(n+1))) (64-(n+1))+1):=(by show _=_;rw[O.out,show 64-n=63-n+1 by omega,bm.out ab,show 63-n=64-(n+1) by omega];rfl);have L:Hid (decide (0<Z)=true):=bp (by rw[D.out];omega);generalize K.toNat=bR at *;subst bs;clear bm bn;go_wp2;go_meet;exact⟨by rw[L.out],λ_=>⟨c8,aa,D.out⟩,_,V.symm⟩
        ·have bs:K.toNat≠0:=λe=>ab (cF.out.2 e);have D:Hid (Z=0):=ad (by rw[O.out,bn.out ab]);have L:Hid (decide (0<Z)=false):=br (by rw[D.out];omega);generalize K.toNat=bR at *;have e3:decide ((bR:Int)=0)=false:=br ω;clear bm bn;go_wp2;go_meet;exact⟨by rw[L.out];simp[bs],λh=>by rw[D.out]at h;omega,_,V.symm⟩
       ·have k2:¬(i:Int)+n<d.length:=ω;have D:Hid (Z=0):=ad (by rw[O.out,Kb _ _ _ ω]);have L:Hid (decide (0<Z)=false):=br (by rw[D.out];omega);go_wp2;go_meet;exact⟨by rw[L.out],λh=>by rw[D.out]at h;omega,_,V.symm⟩
      ·have k1:¬(n:Int)<64:=ω;have D:Hid (Z=0):=ad (by rw[O.out,show 64-n=0 by omega,JW]);have L:Hid (decide (0<Z)=false):=br (by rw[D.out];omega);go_wp2;go_meet;exact⟨by rw[L.out],λh=>by rw[D.out]at h;omega,_,V.symm⟩
     case rest=>
      obtain⟨rfl,HN,M,rfl⟩:=hcut;by_cases ac:0<Z
      ·have aj:decide (0<Z)=true:=bp ac;obtain⟨a1,a2,a3⟩:=HN.out ac;simp only[aj];have cG:Hid (dh (d.drop (i+1)) 63+1=n+1+dh (d.drop (i+(n+1))) (64-(n+1))):=(by show _=_;rw[U.out,a3];omega);clear a3 U O HN;go_wp2;go_roundw;case rel=>exact⟨n+1,ω,ω,ω,γ,cG,M,rfl⟩
       case measure=>exact μ
      ·have aj:decide (0<Z)=false:=br ac;obtain rfl:Z=0:=ω;simp only[aj];have ca:Hid (dh (d.drop (i+1)) 63=n-1):=(by show _=_;have:=U.out;omega);have bx:Hid (l++dr d=((m++bP 0 4)++bP (n-1) 6)++dr (d.drop (i+n))):=(by show _=_;rw[bB.out,ca.out,show n-1+1=n by omega];simp);have cL:cM (z.drewN M) base g T rest o m:=⟨((Fr.refl z).drewN M).heap J.1,J.2.1.fr ((Fr.refl z).drewN M),J.2.2⟩;have cN:=G.frR ((Fr.refl z).drewN M);have cb:=ay b8 ((Fr.refl z).drewN M).size;generalize z.drewN M=wq at *;have HP:=ad (a0.out 0 4 ω ω o m wq cL ω cb);have h6:=fX (n-1) 6;have cR:IntKind.u64.wrap ((n:Int)-1)=((n-1:Nat):Int):=(by rw[show(n:Int)-1=((n-1:Nat):Int) by omega];exact dF _ ω);have e6:IntKind.i64.wrap ((n:Int)-1)=((n-1:Nat):Int):=(by rw[ax _ ω];omega);clear U O HN aj ac ca bB;go_wp2_with fail;refine HP.out.mono ?_;rintro e w3 ⟨rfl,b1,b3,ak⟩;have cT:=ay cb ak.1.size;have da:(m++bP 0 4).length<=l.length+10*i+4:=(by rw[am,bL];omega);have dc:=ad (a0.out (n-1) 6 ω (by have:(2:Nat)^6=64:=rfl;omega) b1 (m++bP 0 4) w3 b3 ω cT);have b4:Hid ((m++bP 0 4++bP (n-1) 6).length<=l.length+10*(i+n)):=(by show _<=_;rw[am,h6];omega);clear da h6 bL;go_wp2_with fail;refine dc.out.mono ?_;rintro e w4 ⟨rfl,di,dj,ds⟩;go_wp2;go_roundw;case rel=>exact⟨i+n,di,_,ω,γ,dj,(cN.trans ak).trans ds,b4.out,bx⟩
       case measure=>exact μ
   ·have c5:(0:Int)<I:=ω;have bx:=ad (aC.out (λe=>bc (X.out.1 e)));have HP:=ad (a0.out I 4 ω (by have:(2:Nat)^4=16:=rfl;omega) o m wr J ω b8);have cR:=dF (I:Int) ω;have ch:(m++bP I 4).length<=l.length+10*(i+1):=(by rw[am,bA];omega);have b4:=ad ch;clear aC bb Y X R ch bA;go_wp2_with fail;refine HP.out.mono ?_;rintro e w3 ⟨rfl,b1,b3,ak⟩;go_wp2;go_roundw;case rel=>exact⟨i+1,b1,_,ω,γ,b3,G.trans ak,b4.out,bx⟩
    case measure=>exact μ
  ·obtain rfl:i=d.length:=ω;have e7:¬(d.length:Int)<d.length:=ω;have dv:Hid (l++dr d=m):=ad (by rw[R.out,nL,rz,dg]);go_wp2;go_ret;exact⟨rfl,o,by rw[dv.out];exact J,G⟩
def Xs(v:Value)(d:Z0)(g:Nat)(w:World)(h:ah w eB v d)(o:d.length<=300)(z:∀c∈d,c.toNat<=15)(D:bX d=false):Calls Tryz.prog 193 #[.pointer (some ⟨g,0,none⟩),v] w λe w'=>e=.returned (.int .i64 7)/\Fr w w':=by
 have m:=ad (yT _ d w h o z);rw[D]at m;clear h;go_in;go_wp2_with fail;refine m.out.mono ?_;rintro e G ⟨rfl,F⟩;go_wp2;go_ret;exact⟨rfl,F⟩
def Y5(d:Z0)(l s:Nat):List Nat:=
 (List.range d.length).map λi=>if 1<=(d.getD i 0).toNat/\((d.getD i 0).toNat<l\/((d.getD i 0).toNat=l/\i<s))then bV d (d.getD i 0).toNat i%65536 else 0
def YD(d:Z0)(l s e h:Nat)(m:Bool):Prop:=
 (m=true/\h<=l/\(e+1)*2^(l-h)=bV d l s)\/(m=false/\e=0/\bV d l s=0)
def wO(a b:Nat)(A B:Nat)(d:a<=A)(e:b<=B)(h:A*B<=1000000000):IntKind.i64.wrap ((a:Int)*b)=((a*b:Nat):Int):=by
 have:a*b<=A*B:=bH d e;rw[<- sJ];exact kf _ ω
def E6(R C i g n d base:Nat)(l:Z0)(w:World)(m:Ow w base eB (.slice (some ⟨g,0,none⟩) n d) l)(o:l.length=R*C)(z:i<R)(hC:1<=C)(h:C<=255)(D:R<=255):Calls Tryz.prog 222 #[.agg #[N R,N C,.slice (some ⟨g,0,none⟩) n d],N i] w λe w'=>e=.returned (.slice (some ⟨g,i*C,none⟩) C (d-i*C))/\Fr w w':=by
 have F:(i+1)*C=i*C+C:=by rw[be,dC]
 have G:(i+1)*C<=R*C:=bQ C z;have I:=bH D h;obtain⟨J,_⟩:=xm rfl 30 Tryz.underlying30 m (i*C) ((i+1)*C) ω ω;have K:=wO i C 255 255 ω h ω;have L:IntKind.i64.wrap (((i:Int)+1)*C)=(((i+1)*C:Nat):Int):=wO (i+1) C 255 255 ω h ω;rw[show(i+1)*C-i*C=C by omega]at J;clear F G I o m;generalize (i+1)*C=q,i*C=p at *;go_in;go_wp2;go_ret;exact⟨rfl,(Fr.refl w).alloc _⟩
structure kC (w:World) (B o n g cap:Nat):Prop where
 c0:w.cell? ⟨B,o,none⟩=some (N n)
 c1:w.cell? ⟨B,o+1,none⟩=some (N n)
 c2:w.cell? ⟨B,o+2,none⟩=some (.slice (some ⟨g,0,none⟩) (n*n) cap)
def kC.fr{w w':World}{B o n g e:Nat}(h:kC w B o n g e)(d:Fr w w'):kC w' B o n g e:=⟨d.cell h.c0,d.cell h.c1,d.cell h.c2⟩
def ai.cell{G:Nat->Prop}{w w':World}(h:ai G w w'){a:Addr}{u:Value}(d:w.cell? a=some u)(e:¬G a.block):w'.cell? a=some u:=
 (World.cell?_of_block (h.block a.block (World.block_lt_of_cell? w _ d) e)).trans d
def kC.chg{w w':World}{G:Nat->Prop}{B o n g m:Nat}(h:kC w B o n g m)(d:ai G w w')(e:¬G B):kC w' B o n g m:=⟨ai.cell d h.c0 e,ai.cell d h.c1 e,ai.cell d h.c2 e⟩
def qB(B o n i g d base:Nat)(l:Z0)(w:World)(m:kC w B o n g d)(z:Ow w base eB (.slice (some ⟨g,0,none⟩) (n*n) d) l)(D:l.length=n*n)(F:i<n)(h:n<=255):Calls Tryz.prog 252 #[.pointer (some ⟨B,o,none⟩),N i] w λe w'=>e=.returned (.slice (some ⟨g,i*n,none⟩) n (d-i*n))/\Fr w w':=by
 have G:=ad (E6 n n i g (n*n) d base l w z D F ω h h);obtain⟨J,K,c2⟩:=m;go_in;go_wp2_with fail;apply G.z;rintro e L ⟨rfl,I⟩;go_wp2;go_ret;exact⟨rfl,I⟩
def DB(B o n i j g d base:Nat)(f:Nat->Nat->UInt8)(w:World)(F:kC w B o n g d)(m:Ow w base eB (.slice (some ⟨g,0,none⟩) (n*n) d) (bo n f (n*n)))(a3:B≠g)(G:i<n)(I:j<n)(V:n<=255):Calls Tryz.prog 253 #[.pointer (some ⟨B,o,none⟩),N i,N j] w λe w'=>e=.returned (.tuple #[])/\Ow w' base eB (.slice (some ⟨g,0,none⟩) (n*n) d) (bo n (gU f i j) (n*n))/\ai (λk=>k=g) w w':=by
 have b2:=(m.lt g rfl).2;have X:=gk n f (n*n);have a4:i*n+n<=n*n:=by have:=bQ n G;rw[jW]at this;exact this
 have a5:j*n+n<=n*n:=by have:=bQ n I;rw[jW]at this;exact this
 have Y:=ad (λW l (F:kC W B o n g d) (m:Ow W base eB (.slice (some ⟨g,0,none⟩) (n*n) d) l) (K:l.length=n*n)=>qB B o n i g d base l W F m K G V);have Z:=ad (λW l (F:kC W B o n g d) (m:Ow W base eB (.slice (some ⟨g,0,none⟩) (n*n) d) l) (K:l.length=n*n)=>qB B o n j g d base l W F m K I V);have S:=λi (G:i<n) (W:World) (D:Fr w W)=>(xm (E:=eB) (t:=30) rfl Tryz.underlying30 (m.fr D) (i*n) ((i+1)*n) (by rw[jW];omega) (by rw[X];exact bQ n G)).2;have SI:=ad (λW D=>by have:=S i G W D;rw[uU n f n i G,show(i+1)*n-i*n=n by rw[jW];omega]at this;exact this);have SJ:=ad (λW D=>by have:=S j I W D;rw[uU n f n j I,show(j+1)*n-j*n=n by rw[jW];omega]at this;exact this);have a7:=ti n f i;have aC:=ti n f j;have CI:=ad (λW D=>lE _ (kj n f i) W (SI.out W D) ω);have CJ:=ad (λW D=>lE _ (kj n f j) W (SJ.out W D) ω);have P1:Hid ((bo n f (n*n)).take (i*n)++(kj n f j++(bo n f (n*n)).drop (i*n+n))=bo n (jL f i (f j)) (n*n)):=A8 n f n i G (f j);have P2:Hid ((bo n (jL f i (f j)) (n*n)).take (j*n)++(kj n f i++(bo n (jL f i (f j)) (n*n)).drop (j*n+n))=bo n (gU f i j) (n*n)):=by have:=A8 n (jL f i (f j)) n j I (f i);rw[Oy]at this;exact this
 have J:=ad X;have aa:=ad (gk n (jL f i (f j)) (n*n));generalize kj n f j=rj,kj n f i=ri,bo n f (n*n)=z,bo n (jL f i (f j)) (n*n)=z2 at *;have HI:=ad a4;have HJ:=ad a5;go_in;go_wp2_with fail;refine(Y.out _ _ F m J.out).mono ?_;rintro e w1 ⟨rfl,L⟩;go_wp2_with fail;refine(CI.out _ L).mono ?_;rintro e w2 ⟨v2,rfl,ab,bm⟩;have M:=L.trans bm;go_wp2_with fail;refine(Z.out _ _ (F.fr M) (m.fr M) J.out).mono ?_;rintro e w3 ⟨rfl,ac⟩;have aj:=M.trans ac;go_wp2_with fail;refine(CJ.out _ aj).mono ?_;rintro e w4 ⟨v4,rfl,bn,ak⟩;have O:=aj.trans ak;have bs:=ab.fr (ac.trans ak);go_wp2_with fail;refine(Y.out _ _ (F.fr O) (m.fr O) J.out).mono ?_;rintro e w5 ⟨rfl,Q⟩;have ap:=O.trans Q;have av:0<n:=ω
 have bu:=bn.fr Q;have bv:=bs.fr Q;go_wp2_with (refine zE rfl rfl (.tmp 18) (.tmp 19) 30 30 rfl Tryz.underlying30 g (i*n) n _ d _ _ z rj rfl rfl (m.fr ap) bu.see aC av (by rw[J.out];exact HI.out) ?_);intro w6 R a0;rw[P1.out]at R;have a1:=(ap.chg _).trans a0 λ_ _ h=>h;have bx:=bv.chg a0 λk hk e=>by have:=(ab.lt k hk).1;have:=L.size;omega
 go_wp2_with fail;refine(Z.out _ _ (F.chg a1 a3) R aa.out).mono ?_;rintro e w7 ⟨rfl,U⟩;go_wp2_with (refine zE rfl rfl (.tmp 23) (.tmp 24) 30 30 rfl Tryz.underlying30 g (j*n) n _ d _ _ z2 ri rfl rfl (R.fr U) (bx.fr U).see a7 av (by rw[aa.out];exact HJ.out) ?_);intro w8 a2 b1;rw[P2.out]at a2;go_wp2;go_end0;exact⟨rfl,a2,(a1.trans (U.chg _) λ_ _ h=>h).trans b1 λ_ _ h=>h⟩
def uT{w:World}{base g m z n:Nat}{f:Nat->Nat->UInt8}(D:Ow w base eB (.slice (some ⟨g,0,none⟩) m z) (bo n f (n*n)))(r j:Nat)(d:r<n)(F:j<n):w.cell? ⟨g,r*n+j,none⟩=some (.int .u8 ((f r j).toNat:Int))/\w.frozen? ⟨g,r*n+j,none⟩=false:=by
 have h:r*n+j<n*n:=by have:=bQ n d;rw[jW]at this;omega
 obtain⟨o,G⟩:=D.cellAt Fk.u8 rfl (r*n+j) (by rw[gk];exact h);have e:=rH n f n r j d F;rw[cg _ _ _ (by rw[gk];exact h)]at e;rw[e]at o;exact⟨o,G⟩
def oF(f:Nat->Nat->UInt8)(i:Nat)(c:UInt8)(k:Nat):Nat->Nat->UInt8:=λr j=>if r=i/\j<k then aT c (f i j)else f r j
def Ns(f:Nat->Nat->UInt8)(i:Nat)(c:UInt8)(k:Nat):(λr j=>if r=i/\j=k then aT c (f i k)else oF f i c k r j)=oF f i c (k+1):=by
 funext r j;unfold oF;by_cases d:r=i
 ·by_cases e:j=k;·subst d e;simp
  ·by_cases h:j<k;·simp[d,e,h,show j<k+1 by omega]
   ·simp[d,e,h,show ¬j<k+1 by omega]
 ·simp[d]
def Nr(f:Nat->Nat->UInt8)(i:Nat)(c:UInt8):oF f i c 0=f:=by
 funext r j;simp[oF]
def Nt(n:Nat)(f:Nat->Nat->UInt8)(i:Nat)(c:UInt8):bo n (oF f i c n) (n*n)=bo n (lJ f i c) (n*n):=by
 refine xF n _ _ _ λt d=>?_;have m:0<n:=by rcases kE n with e | e;(subst e;simp at d);exact e
 have:=jB t m;unfold oF lJ;by_cases h:t / n=i;·rw[af ⟨h,this⟩,af h]
 ·rw[ae (λe=>h e.1),ae h]
def Es(B o n i g m base:Nat)(c:UInt8)(f:Nat->Nat->UInt8)(w:World)(G:kC w B o n g m)(z:Ow w base eB (.slice (some ⟨g,0,none⟩) (n*n) m) (bo n f (n*n)))(I:i<n)(Z:n<=255):Calls Tryz.prog 254 #[.pointer (some ⟨B,o,none⟩),N i,.int .u8 (c.toNat:Int)] w λe w'=>e=.returned (.tuple #[])/\Ow w' base eB (.slice (some ⟨g,0,none⟩) (n*n) m) (bo n (lJ f i c) (n*n))/\ai (λk=>k=g) w w':=by
 have aC:=(z.lt g rfl).2;have aa:=ad (Jt c.toNat c.toNat_lt);have RI:=ad (λW (G:kC W B o n g m) (z:Ow W base eB (.slice (some ⟨g,0,none⟩) (n*n) m) (bo n f (n*n)))=>qB B o n i g m base _ W G z (gk _ _ _) I Z);go_in;go_wp2_with fail;refine(aa.out _).mono ?_;rintro e d ⟨rfl,F⟩;have L:(cS c.toNat).size=256:=by simp[cS]
 have ac:(cS c.toNat).all (·.oneCell')=true:=by unfold cS;rw[iI,pE];intro u hu;obtain⟨_,_,rfl⟩:=ee.1 hu;rfl
 have ak:(Tryz.prog.info? 260).map (·.size)=some (cS c.toNat).size:=by rw[L];kernel_rfl
 have M:(d.alloc (.cells Tryz.zeroCells260 260)).heap[d.heap.size]?=some (.cells Tryz.zeroCells260 260 (0,0)):=aB _ _ _ rfl;have ap:(Tryz.zeroCells260).size=(cS c.toNat).size:=by rw[L];kernel_rfl
 have av:=iq _ d.heap.size Tryz.zeroCells260 (cS c.toNat) _ _ M
 have J:Fr w ((d.alloc (.cells Tryz.zeroCells260 260)).setRow d.heap.size (cS c.toNat)):=
  ai.below (F.alloc _) (dl _ _ _) (by simp;have:=F.size;omega) (λk O=>by rw[O];exact F.size)
 generalize a0:(d.alloc (.cells Tryz.zeroCells260 260)).setRow d.heap.size (cS c.toNat)=w2 at *;have bb:=F.size;go_wp2_with (refine fz rfl 260 (.tmp 6) (.tmp 11) rfl d.heap.size (cS c.toNat) rfl rfl 260 Tryz.zeroCells260 M ak ap ac ?_;rw[a0]);refine(RI.out _ (G.fr J) (z.fr J)).mono ?_;rintro e w3 ⟨rfl,Q⟩;have R:=J.trans Q;have a1:=Q.heap av;have a2:=z.fr R;generalize d.heap.size=r at *;generalize bd:m-i*n=cp;go_wp2;go_loopw [17] (λK wr=>∃k:Nat,k<=n/\K=N k/\Ow wr base eB (.slice (some ⟨g,0,none⟩) (n*n) m) (bo n (oF f i c k) (n*n))/\wr.heap[r]?=some (.cells (cS c.toNat) 260 (0,0))/\ai (λk=>k=g) w wr) (λK _=>n-(intOf K).toNat);case atStart=>exact⟨0,ar _,rfl,by rw[Nr];exact a2,a1,R.chg _⟩
 case round=>
  obtain⟨k,O,rfl,D,U,V⟩:=hrel;by_cases X:k<n
  ·obtain⟨e1,z1⟩:=uT D i k I X;have a4:oF f i c k i k=f i k:=(by unfold oF;rw[ae ω]);rw[a4]at e1;have Y:=D.set Fk.u8 rfl (i*n+k) (by rw[gk];have:=bQ n I;rw[jW]at this;omega) (aT c (f i k)) (B8 (aS c.toNat (f i k).toNat)) (by show Value.int .u8 _=_;rw[mF]);rw[OA n _ _ i k X,Ns]at Y;have a5:=(f i k).toNat_lt;generalize (f i k).toNat=x at *;have e3:wr.cell? ⟨r,x,none⟩=some (B8 (aS c.toNat x)):=(by rw[aK U];exact E8 c.toNat x a5);have a6:g≠r:=(by intro e;omega);go_wp2;go_roundw;case rel=>exact⟨k+1,ω,γ,Y,(a9 wr ⟨g,i*n+k,none⟩ _).heap U (λe=>a6 e.symm),V.trans (a9 wr ⟨g,i*n+k,none⟩ _) λ_ _ h=>h⟩
   case measure=>exact μ
  ·have a7:k=n:=ω;rw[a7]at D ⊢;rw[Nt]at D;go_wp2;go_end0;exact⟨rfl,D,V⟩
def CX(B o n i k g d base:Nat)(c:UInt8)(f:Nat->Nat->UInt8)(w:World)(F:kC w B o n g d)(m:Ow w base eB (.slice (some ⟨g,0,none⟩) (n*n) d) (bo n f (n*n)))(G:i<n)(J:k<n)(O:n<=255):Calls Tryz.prog 255 #[.pointer (some ⟨B,o,none⟩),N i,.int .u8 (c.toNat:Int),N k] w λe w'=>e=.returned (.tuple #[])/\Ow w' base eB (.slice (some ⟨g,0,none⟩) (n*n) d) (bo n (jL f i (λj=>f i j ^^^ aT c (f k j))) (n*n))/\ai (λk=>k=g) w w':=by
 have Q:=gk n f (n*n);have aa:i*n+n<=n*n:=by have:=bQ n G;rw[jW]at this;exact this
 have R:=ad (λW l (F:kC W B o n g d) (m:Ow W base eB (.slice (some ⟨g,0,none⟩) (n*n) d) l) (K:l.length=n*n)=>qB B o n i g d base l W F m K G O);have RK:=ad (λW l (F:kC W B o n g d) (m:Ow W base eB (.slice (some ⟨g,0,none⟩) (n*n) d) l) (K:l.length=n*n)=>qB B o n k g d base l W F m K J O);have S:=λi (G:i<n) (W:World) (D:Fr w W)=>(xm (E:=eB) (t:=30) rfl Tryz.underlying30 (m.fr D) (i*n) ((i+1)*n) (by rw[jW];omega) (by rw[Q];exact bQ n G)).2;have SI:=ad (λW D=>by have:=S i G W D;rw[uU n f n i G,show(i+1)*n-i*n=n by rw[jW];omega]at this;exact this);have SK:=ad (λW D=>by have:=S k J W D;rw[uU n f n k J,show(k+1)*n-k*n=n by rw[jW];omega]at this;exact this);have aj:=ti n f i;have ak:=ti n f k;have U:=ad (λW D=>JS _ _ (kj n f i) (kj n f k) c.toNat c.toNat_lt W (SI.out W D) (SK.out W D) (by rw[aj,ak]) ω);rw[VU]at U;have P1:Hid ((bo n f (n*n)).take (i*n)++((List.range n).map (λj=>f i j ^^^ aT c (f k j))++(bo n f (n*n)).drop (i*n+n))=bo n (jL f i (λj=>f i j ^^^ aT c (f k j))) (n*n)):=A8 n f n i G _;have av:((List.range n).map (λj=>f i j ^^^ aT c (f k j))).length=n:=σ
 have I:=ad Q;generalize bo n f (n*n)=z,(List.range n).map (λj=>f i j ^^^ aT c (f k j))=q at *;have HI:=ad aa;go_in;go_wp2_with fail;refine(R.out _ _ F m I.out).mono ?_;rintro e w1 ⟨rfl,L⟩;go_wp2_with fail;refine(RK.out _ _ (F.fr L) (m.fr L) I.out).mono ?_;rintro e w3 ⟨rfl,a1⟩;have V:=L.trans a1;go_wp2_with fail;refine(U.out _ V).mono ?_;rintro e w4 ⟨v4,rfl,a2,a3⟩;have M:=V.trans a3;go_wp2_with fail;refine(R.out _ _ (F.fr M) (m.fr M) I.out).mono ?_;rintro e w5 ⟨rfl,X⟩;have Y:=M.trans X;have a4:0<n:=ω
 go_wp2_with (refine zE rfl rfl (.tmp 23) (.tmp 24) 30 30 rfl Tryz.underlying30 g (i*n) n _ d _ _ z q rfl rfl (m.fr Y) (a2.fr X).see av a4 (by rw[I.out];exact HI.out) ?_);intro w6 Z a5;rw[P1.out]at Z;go_wp2;go_end0;exact⟨rfl,Z,(Y.chg _).trans a5 λ_ _ h=>h⟩
def yS(R C:Nat)(a:Option Addr)(d:Nat)(m:R<=255)(hC:C<=255)(w:World):Calls Tryz.prog 221 #[.agg #[N R,N C,.slice a (R*C) d]] w λe w'=>e=.returned (.bool true)/\Fr w w':=by
 have z:=ad (uE R m);have D:=ad (uE C hC);have J:=wO R C 255 255 m hC ω;generalize R*C=L at *;have h:(w.alloc (.cells #[N R,N C,.slice a L d] 142)).heap[w.heap.size]?=some (.cells #[N R,N C,.slice a L d] 142 (0,0)):=aB _ _ _ rfl;have F:Fr w (w.alloc (.cells #[N R,N C,.slice a L d] 142)):=(Fr.refl w).alloc _;generalize o:w.alloc (.cells #[N R,N C,.slice a L d] 142)=W at *;have K:=ag h 0 rfl;have M:=ag h 1 rfl;have c2:=ag h 2 rfl;have G:=ad o;clear o h;go_in;go_upto_region 1 with fail;rw[G.out];go_wp2_with fail;refine(z.out _).mono ?_;rintro e I ⟨rfl,rfl⟩;go_wp2_with fail;refine(D.out _).mono ?_;rintro e I ⟨rfl,rfl⟩;go_wp2;go_ret;exact⟨rfl,F⟩
structure gB (w:World) (B base n g1 cap1 g2 cap2:Nat) (A:Nat->Nat->UInt8):Prop where
 h:w.heap[B]?=some (.cells #[N n,N n,.slice (some ⟨g1,0,none⟩) (n*n) cap1,N n,N n,.slice (some ⟨g2,0,none⟩) (n*n) cap2] 335 (0,0))
 o1:Ow w base eB (.slice (some ⟨g1,0,none⟩) (n*n) cap1) (bo n A (n*n))
 o2:Ow w base eB (.slice (some ⟨g2,0,none⟩) (n*n) cap2) (bo n (λr j=>A r (n+j)) (n*n))
 ne:g1≠g2
section
variable {w w':World} {B base n g1 cap1 g2 cap2:Nat} {A A':Nat->Nat->UInt8}
theorem gB.n1(h:gB w B base n g1 cap1 g2 cap2 A):B≠g1:=λe=>h.o1.ne_cells h.h δ (by rw[e];rfl)
theorem gB.n2(h:gB w B base n g1 cap1 g2 cap2 A):B≠g2:=λe=>h.o2.ne_cells h.h δ (by rw[e];rfl)
theorem gB.w1(h:gB w B base n g1 cap1 g2 cap2 A):kC w B 0 n g1 cap1:=⟨by rw[aK h.h];rfl,by rw[aK h.h];rfl,by rw[aK h.h];rfl⟩
theorem gB.w2(h:gB w B base n g1 cap1 g2 cap2 A):kC w B 3 n g2 cap2:=⟨by rw[aK h.h];rfl,by rw[aK h.h];rfl,by rw[aK h.h];rfl⟩
theorem gB.fr(h:gB w B base n g1 cap1 g2 cap2 A)(d:Fr w w'):gB w' B base n g1 cap1 g2 cap2 A:=⟨d.heap h.h,h.o1.fr d,h.o2.fr d,h.ne⟩
theorem gB.both{d:World}(h:gB w B base n g1 cap1 g2 cap2 A)(o:ai (λk=>k=g1) w d)(D:Ow d base eB (.slice (some ⟨g1,0,none⟩) (n*n) cap1) (bo n A' (n*n)))(m:ai (λk=>k=g2) d w')(F:Ow w' base eB (.slice (some ⟨g2,0,none⟩) (n*n) cap2) (bo n (λr j=>A' r (n+j)) (n*n))):gB w' B base n g1 cap1 g2 cap2 A'/\ai (λk=>k=g1\/k=g2) w w':=
 ⟨⟨m.heap (o.heap h.h h.n1) h.n2,D.chg m (λk z e=>by simp[Value.ownBlock]at z;exact h.ne (z.trans e)),F,h.ne⟩,(o.mono λ_ _ h=>.inl h).trans m λ_ _ h=>.inr h⟩
theorem gB.o2'{d:World}(h:gB w B base n g1 cap1 g2 cap2 A)(o:ai (λk=>k=g1) w d):Ow d base eB (.slice (some ⟨g2,0,none⟩) (n*n) cap2) (bo n (λr j=>A r (n+j)) (n*n)):=
 h.o2.chg o (λk m e=>by simp[Value.ownBlock]at m;exact h.ne (e.symm.trans m.symm))
theorem gB.congr(h:gB w B base n g1 cap1 g2 cap2 A)(d:∀r j,A r j=A' r j):gB w B base n g1 cap1 g2 cap2 A':=by
 have:A=A':=by funext r j;exact d r j
 rw[<- this];exact h
end
def Ti(S:Nat->Nat->UInt8)(i:Nat):dK S i 0=S:=by funext r j;simp[dK]
def Tj(S:Nat->Nat->UInt8)(i k:Nat)(h:k=i\/S k i=0):dK S i (k+1)=dK S i k:=by
 funext r j;unfold dK;by_cases m:r=k
 ·subst m;rcases h with h | h;·rw[ae (λe=>e.2 h),ae (λe=>e.2 h)]
  ·rw[h,pF,rn];simp
 ·by_cases d:r<k/\r≠i;·rw[af ⟨ω,d.2⟩,af d]
  ·rw[ae (λe=>d ⟨ω,e.2⟩),ae d]
def Hc(S:Nat->Nat->UInt8)(i k:Nat)(h:k≠i):jL (dK S i k) k (λj=>dK S i k k j ^^^ aT (S k i) (dK S i k i j))=dK S i (k+1):=by
 funext r j;unfold jL;by_cases m:r=k;·subst m;rw[af rfl];show dK S i r r j ^^^ aT (S r i) (dK S i r i j)=_;unfold dK;rw[ae ω,ae σ,af ⟨ω,h⟩]
 ·rw[ae m];unfold dK;by_cases d:r<k/\r≠i;·rw[af d,af ⟨ω,d.2⟩]
  ·rw[ae d,ae (λe=>d ⟨ω,e.2⟩)]
def RD(x:UInt8):B8 (oU x.toNat)=.int .u8 ((gl x).toNat:Int):=by
 have h:=Gx x.toNat x.toNat_lt;have e:(gl x).toNat=oU x.toNat:=by unfold gl;exact oN _ h
 rw[e]
def Ux(B base n i g1 cap1 g2 cap2:Nat)(A:Nat->Nat->UInt8)(w:World)(hP:gB w B base n g1 cap1 g2 cap2 A)(o:i<n)(I:n<=255)(hp:qo A n i):Calls Tryz.prog 226 #[.pointer (some ⟨B,0,none⟩),N i,N i] w λe w'=>e=.returned (.bool true)/\gB w' B base n g1 cap1 g2 cap2 (m7 A n i)/\ai (λk=>k=g1\/k=g2) w w':=by
 obtain⟨cs,ac,bl,bm⟩:=hp;have HD:Hid (m7 A n i=dK (jh A n i) i n):=rfl;have HS:Hid (jh A n i=lJ (gU A i (iP A n i)) i (gl (A (iP A n i) i))):=rfl;generalize m7 A n i=A9,iP A n i=p at *;have dc:(i:Int)<n:=ω
 have di:(0:Int)<=i:=ω
 go_in;go_wp2;go_loopw [7] (λqv wr=>∃q:Nat,i<=q/\q<=p/\qv=N q/\Fr w wr) (λqv _=>p-(intOf qv).toNat);case atStart=>exact⟨i,al _,cs,rfl,Fr.refl w⟩
 case round=>
  obtain⟨q,cu,dj,rfl,m⟩:=hrel;have D:=hP.fr m;have K:=ad (λW (m:Fr wr W)=>qB B 0 n q g1 cap1 base _ W ((D.w1).fr m) (D.o1.fr m) (gk _ _ _) ω I);have k0:wr.cell? ⟨B,0,none⟩=some (N n):=D.w1.c0;have ds:(q:Int)<n:=ω;by_cases cv:q<p
  ·have hz:(A q i).toNat=0:=(by rw[bm q cu cv];rfl);have F:=ad (λW (m:Fr wr W)=>by have:=(uT (D.o1.fr m) q i ω o).1;rw[hz]at this;exact this);generalize bs:cap1-q*n=cp at *;generalize bu:q*n=pn at *;go_wp2_with fail;refine(K.out _ (Fr.refl _)).mono ?_;rintro e w1 ⟨rfl,J⟩;have c1:=F.out w1 J;go_wp2;go_roundw;case rel=>exact⟨q+1,ω,ω,γ,m.trans J⟩
   case measure=>exact μ
  ·obtain rfl:p=q:=ω;have hz:¬((A p i).toNat:Int)=0:=λe=>bl (eP.1 (by rw[UInt8.toNat_zero];omega));have c3:¬(p:Int)=n:=ω;have F:=ad (λW (m:Fr wr W)=>(uT (D.o1.fr m) p i ac o).1);have bx:=ad (λW (m:Fr wr W)=>DB B 0 n i p g1 cap1 base A W ((D.w1).fr m) (D.o1.fr m) D.n1 o ac I);clear hP;generalize bs:cap1-p*n=cp at *;generalize bu:p*n=pn at *;go_wp2_with fail;refine(K.out _ (Fr.refl _)).mono ?_;rintro e w1 ⟨rfl,J⟩;have c1:=F.out w1 J;have k1:=J.cell k0;clear F K k0;go_wp2_with fail;refine(bx.out _ J).mono ?_;rintro e w2 ⟨rfl,b0,V⟩;have O:=D.fr J;have b1:=ad (DB B 3 n i p g2 cap2 base (λr j=>A r (n+j)) w2 (O.w2.chg V O.n1) (O.o2' V) O.n2 o ac I);clear c1 k1 bx hz c3;go_wp2_with fail;apply b1.z;rintro e X ⟨rfl,b2,b3⟩;obtain⟨L,b4⟩:=O.both (A':=gU A i p) V b0 b3 b2;have b5:ai (λk=>k=g1\/k=g2) wr X:=(J.chg _).trans b4 λ_ _ h=>h;have b6:gU A i p i i=A p i:=(by unfold gU;rw[af rfl]);clear b1 b0 V b2 b3 b4 O D J;have b7:=ad (qB B 0 n i g1 cap1 base _ X L.w1 L.o1 (gk _ _ _) o I);have a2:=ad (λW (m:Fr X W)=>(uT (L.o1.fr m) i i o o).1);rw[b6]at a2;have HI:=ad (J8 (A p i).toNat (A p i).toNat_lt);obtain⟨er,b8⟩:=Gu (A p i).toNat;rw[b8,RD]at HI;have a4:=ad (λW (m:Fr X W)=>Es B 0 n i g1 cap1 base (gl (A p i)) (gU A i p) W (L.w1.fr m) (L.o1.fr m) o I);have a5:=ad (λW R (hP:gB W B base n g1 cap1 g2 cap2 (gU A i p)) (G:ai (λk=>k=g1) W R)=>Es B 3 n i g2 cap2 base (gl (A p i)) (λr j=>gU A i p r (n+j)) R (hP.w2.chg G hP.n1) (hP.o2' G) o I);clear b8 b6;rw[<- HS.out]at a4;have b9:Hid (lJ (λr j=>gU A i p r (n+j)) i (gl (A p i))=λr j=>jh A n i r (n+j)):=ad (by rw[HS.out];rfl);rw[b9.out]at a5;generalize (A p i).toNat=ap,gU A i p=A2,jh A n i=S,gl (A p i)=cc at *;generalize c8:cap1-i*n=d1 at *;generalize cA:i*n=d2 at *;clear HS b9 bl bm;go_wp2_with fail;apply b7.z;rintro e w4 ⟨rfl,Q⟩;have c4:=a2.out w4 Q;go_wp2_with fail;refine(HI.out _).mono ?_;rintro e w5 ⟨rfl,rfl⟩;go_wp2_with fail;refine(a4.out _ Q).mono ?_;rintro e w5 ⟨rfl,bB,a6⟩;have bL:=ad (a5.out w4 w5 (L.fr Q) a6);clear a4 a5 b7 a2 HI c4;go_wp2_with fail;apply bL.z;rintro e w6 ⟨rfl,bR,U⟩;obtain⟨aC,bT⟩:=(L.fr Q).both (A':=S) a6 bB U bR;have ca:ai (λk=>k=g1\/k=g2) wr w6:=(b5.trans (Q.chg _) λ_ _ h=>h).trans bT λ_ _ h=>h;clear bL bB a6 bR U L Q bT b5 c8 cA bs bu;have k6:w6.cell? ⟨B,0,none⟩=some (N n):=aC.w1.c0;have U:ai (λk=>k=g1\/k=g2) w w6:=(m.chg _).trans ca λ_ _ h=>h;clear ca m;go_wp2;go_loopw [84] (λkv wr=>∃k:Nat,k<=n/\kv=N k/\gB wr B base n g1 cap1 g2 cap2 (dK S i k)/\ai (λk=>k=g1\/k=g2) w wr) (λkv _=>n-(intOf kv).toNat);case atStart=>exact⟨0,ar _,rfl,aC.congr λr j=>by rw[Ti],U⟩
   case round=>
    clear aC U k6;obtain⟨k,hk,rfl,hP,G⟩:=hrel;by_cases Y:k<n
    ·have d4:(k:Int)<n:=ω;have K:=ad (qB B 0 n k g1 cap1 base _ wr hP.w1 hP.o1 (gk _ _ _) Y I);have bb:dK S i k k i=S k i:=(by unfold dK;rw[ae ω]);have F:=ad (λW (m:Fr wr W)=>(uT (hP.o1.fr m) k i Y o).1);rw[bb]at F;by_cases M:k=i\/S k i=0
     ·have cb:=hP.congr (λr j=>(congrFun (congrFun (Tj S i k M) r) j).symm);have bc:(k:Int)=i\/((S k i).toNat:Int)=0:=by
       rcases M with h | h;·exact .inl ω
       ·exact .inr (by rw[h];rfl)
      clear M bb hP;generalize k*n=kn,cap1-k*n=cp,(S k i).toNat=d at *;go_wp2_with fail;apply K.z;rintro e Z ⟨rfl,z⟩;have c7:=F.out Z z;clear K F;by_cases cF:(k:Int)=i
      ·go_wp2;go_roundw;case rel=>exact⟨k+1,ω,γ,cb.fr z,G.trans (z.chg _) λ_ _ h=>h⟩
       case measure=>exact μ
      ·have ch:(d:Int)=0:=(by rcases bc with h | h;exact absurd h cF;exact h);clear bc;go_wp2;go_roundw;case rel=>exact⟨k+1,ω,γ,cb.fr z,G.trans (z.chg _) λ_ _ h=>h⟩
       case measure=>exact μ
     ·have bc:¬(k:Int)=i:=λe=>M (.inl ω);have bd:k≠i:=λe=>M (.inl e);have ch:¬((S k i).toNat:Int)=0:=λe=>M (.inr (eP.1 (by rw[UInt8.toNat_zero];omega)));have aa:=ad (λW (m:Fr wr W)=>CX B 0 n k i g1 cap1 base (S k i) (dK S i k) W (hP.w1.fr m) (hP.o1.fr m) Y o I);rw[Hc S i k bd]at aa;have ab:=ad (λW R (hP:gB W B base n g1 cap1 g2 cap2 (dK S i k)) (G:ai (λk=>k=g1) W R)=>CX B 3 n k i g2 cap2 base (S k i) (λr j=>dK S i k r (n+j)) R (hP.w2.chg G hP.n1) (hP.o2' G) Y o I);have cj:Hid (jL (λr j=>dK S i k r (n+j)) k (λj=>dK S i k k (n+j) ^^^ aT (S k i) (dK S i k i (n+j)))=λr j=>dK S i (k+1) r (n+j)):=(by show _=_;rw[<- Hc S i k bd];rfl);rw[cj.out]at ab;clear M bd bb cj;generalize (S k i).toNat=d at *;have cG:¬d=0:=λe=>ch ω;have d5:((d:Int) != 0)=true:=(by rw[bne,show((d:Int) == 0)=false from by simpa using cG];rfl);obtain⟨E2,bf⟩:∃E,E=dK S i (k+1):=⟨_,rfl⟩;rw[<- bf]at aa ab;have HE:=ad bf;clear bf;generalize k*n=kn,cap1-k*n=cp,dK S i k=E1 at *;go_wp2_with fail;apply K.z;rintro e Z ⟨rfl,z⟩;have c7:=F.out Z z;clear K F;go_wp2_with fail;refine(aa.out _ z).mono ?_;rintro e w8 ⟨rfl,ck,bk⟩;have cl:=ad (ab.out Z w8 (hP.fr z) bk);clear aa ab c7;go_wp2_with fail;apply cl.z;rintro e w9 ⟨rfl,cm,cn⟩;obtain⟨cT,da⟩:=(hP.fr z).both (A':=E2) bk ck cn cm;clear cl ck bk cm cn;go_wp2;go_roundw;case rel=>exact⟨k+1,ω,γ,HE.out ▸ cT,(G.trans (z.chg _) λ_ _ h=>h).trans da λ_ _ h=>h⟩
      case measure=>exact μ
    ·obtain rfl:n=k:=ω;rw[<- HD.out]at hP;have dT:¬((n:Int)<n):=ω;go_wp2;go_ret;exact⟨rfl,hP,G⟩
def VD(M:Z0)(n:Nat)(d:M.length=n*n):bo n (dB (jA M n) n) (n*n)=M:=by
 rw[<- ET M n n d];conv=>lhs;rw[ET M n n d]
 refine xF n _ _ _ λt h=>?_;have m:0<n:=by rcases kE n with e | e;(subst e;simp at h);exact e
 unfold dB;rw[af (jB t m)]
def VC(M:Z0)(n:Nat):bo n (λr j=>dB (jA M n) n r (n+j)) (n*n)=gK n:=by
 unfold gK;refine xF n _ _ _ λt d=>?_;unfold dB jP;rw[ae ω,show n+t%n-n=t%n by omega];by_cases e:t / n=t%n;·rw[af e,af e.symm]
 ·rw[ae e,ae (λh=>e h.symm)]
def Kv(n:Nat)(M:Z0)(v:Value)(w:World)(I:ah w eB v M)(d:M.length=n*n)(J:1<=n)(K:n<=255):Calls Tryz.prog 225 #[.agg #[N n,N n,v]] w λe w'=>∃B g1 cap1 g2 cap2,e=.returned (.pointer (some ⟨B,0,none⟩))/\gB w' B w.heap.size n g1 cap1 g2 cap2 (dB (jA M n) n)/\Fr w w'/\w.heap.size<=B:=by
 have bu:n*n<=255*255:=bH K K;have bv:1*1<=n*n:=bH J J;have HC:=ad (λW (h:Fr w W)=>lE v M W (I.fr h) ω);have HM:=ad (λW=>FK n J K W);have HL:=ad (VD M n d);have HR:=ad (VC M n);have z:(gK n).length=n*n:=gk _ _ _;have a4:=ad z;have a5:M≠[]:=by intro e;subst e;simp at d;omega
 have a6:gK n≠[]:=by intro e;rw[e]at z;simp at z;omega
 obtain⟨a,L,ab,_⟩:=I.shape;rw[d]at ab;subst ab;have ac:=ad d;clear d;clear z;generalize dB (jA M n) n=A at *;have aj:(w.alloc (.cells #[N n,N n,.slice a (n*n) L] 142)).heap[w.heap.size]?=some (.cells #[N n,N n,.slice a (n*n) L] 142 (0,0)):=aB _ _ _ rfl;have O:Fr w (w.alloc (.cells #[N n,N n,.slice a (n*n) L] 142)):=(Fr.refl w).alloc _;go_in;go_wp2_with fail;refine(HC.out _ O).mono ?_;rintro e Q ⟨v1,rfl,D,R⟩;obtain⟨g1,cap1,rfl,a7,b0,_,_⟩:=D.atHead a5;have F:=R.heap aj;rw[ac.out]at D;have U:=O.trans R
 have b1 : g1 ≠ w.heap.size := by have : w.heap.size + 1 ≤ g1 := by simpa using a7
                                  omega
 have ak:=a9 Q ⟨w.heap.size,2,none⟩ (.slice (some ⟨g1,0,none⟩) (n*n) cap1);have V:=aJ F 2 (.slice (some ⟨g1,0,none⟩) (n*n) cap1);have aC:=a8 F 2;have ba:=ag F 2 rfl;have X:=D.chg ak λk hk e=>by simp[Value.ownBlock]at hk;have e:k=w.heap.size:=e;omega
 have ap:Fr w (Q.setCell ⟨w.heap.size,2,none⟩ (.slice (some ⟨g1,0,none⟩) (n*n) cap1)):=ep U (al _) U.size;rw[ac.out];go_upto_region 2 with fail;have bc:=X.rebase (b:=w.heap.size) σ;have b2:=(X.lt g1 rfl).2;generalize Q.setCell ⟨w.heap.size,2,none⟩ (.slice (some ⟨g1,0,none⟩) (n*n) cap1)=m at *;have c0:=ag V 0 rfl;have c1:=ag V 1 rfl;have c2:=ag V 2 rfl;generalize Y:w.heap.size=b at *;clear ba aj O R D F ak aC X I U
 go_region_held3 (λw' => w'.cell? ⟨b, 0, none⟩ = some (N n) ∧ w'.cell? ⟨b, 1, none⟩ = some (N n) ∧ w'.cell? ⟨b, 2, none⟩ = some (.slice (some ⟨g1, 0, none⟩) (n * n) cap1))
  (first | go_keep)
  ((first
    | (go_at_call 128; refine (HM.out _).mono ?_; rintro e o ⟨v3, rfl, Z, G⟩; rw[G6] at Z; obtain ⟨g2, cap2, av, bk, b3, _, _⟩ := Z.atHead a6; rw[a4.out] at av; subst av; unfold tI; have d0 := G.cell c0; have d1 := G.cell c1; have d2 := G.cell c2)))
 have aa:Fr m o:=(Fr.refl m).drew.trans G;have bl:=ap.trans aa;have bm:=(bc.fr aa).fr ((Fr.refl o).alloc (.cells #[N n,N n,.slice (some ⟨g1,0,none⟩) (n*n) cap1,N n,N n,.slice (some ⟨g2,0,none⟩) (n*n) cap2] 335));have bn:=Z.fr ((Fr.refl o).alloc (.cells #[N n,N n,.slice (some ⟨g1,0,none⟩) (n*n) cap1,N n,N n,.slice (some ⟨g2,0,none⟩) (n*n) cap2] 335));have bs:b<=m.heap.size:=by rw[<- Y];exact ap.size
 have b7:m.heap.size<=o.heap.size:=aa.size;have b8:m.heap.size<=g2:=bk;go_wp2;go_ret;refine⟨o.heap.size,g1,cap1,g2,cap2,rfl,⟨aB _ _ _ rfl,?_,?_,ω⟩,bl.alloc _,ω⟩;·rw[HL.out,Y];exact bm
 ·rw[HR.out,Y];exact bn.rebase bs
def Xx(n:Nat)(M:Z0)(v:Value)(w:World)(hs:ah w eB v M)(hM:M.length=n*n)(h1:1<=n)(I:n<=255)(hG:JC M n):Calls Tryz.prog 188 #[.agg #[N n,N n,v]] w λe w'=>∃u,e=.returned (.tuple #[.agg #[N n,N n,u],.int .i64 0])/\Ow w' w.heap.size eB u (pW M n)/\Fr w w':=by
 obtain⟨a,m,aj,_⟩:=hs.shape;rw[hM]at aj;subst aj;have HM:=ad (yS n n a m I I);have O:=ad (λW (h:Fr w W)=>Kv n M _ W (hs.fr h) hM h1 I);have HI:Hid (pW M n=bo n (λr j=>iL (dB (jA M n) n) n n r (n+j)) (n*n)):=rfl;have av:Hid (∀i,i<n->qo (iL (dB (jA M n) n) n i) n i):=hG;have HS:Hid (∀i,m7 (iL (dB (jA M n) n) n i) n i=iL (dB (jA M n) n) n (i+1)):=λ_=>rfl;have HZ:Hid (iL (dB (jA M n) n) n 0=dB (jA M n) n):=rfl;rw[<- HZ.out]at O;generalize pW M n=IV,iL (dB (jA M n) n) n=St at *;clear HZ hG;generalize bc:n*n=d at *;have J:((w.alloc (.cells #[N n,N n,.slice a d m] 142)).alloc (.cells #[.int .i64 0,.int .i64 0,.slice none 0 0] 142)).heap[w.heap.size]?=some (.cells #[N n,N n,.slice a d m] 142 (0,0)):=by rw[jk _ _ _ σ,aB _ _ _ rfl]
 have a3:((w.alloc (.cells #[N n,N n,.slice a d m] 142)).alloc (.cells #[.int .i64 0,.int .i64 0,.slice none 0 0] 142)).heap[w.heap.size+1]?=some (.cells #[.int .i64 0,.int .i64 0,.slice none 0 0] 142 (0,0)):=aB _ _ _ σ;have a4:Fr w ((w.alloc (.cells #[N n,N n,.slice a d m] 142)).alloc (.cells #[.int .i64 0,.int .i64 0,.slice none 0 0] 142)):=((Fr.refl w).alloc _).alloc _;have bx:((w.alloc (.cells #[N n,N n,.slice a d m] 142)).alloc (.cells #[.int .i64 0,.int .i64 0,.slice none 0 0] 142)).heap.size=w.heap.size+2:=σ
 go_in;go_upto_region 1 with fail;generalize (w.alloc (.cells #[N n,N n,.slice a d m] 142)).alloc (.cells #[.int .i64 0,.int .i64 0,.slice none 0 0] 142)=w0 at *;have D:=ag J 0 rfl;have Q:=ag J 1 rfl;have K:=ag J 2 rfl;generalize hb:w.heap.size=b at *;go_wp2_with fail;refine(HM.out _).mono ?_;rintro e R ⟨rfl,o⟩;have c0:=o.cell D;have c1:=o.cell Q;have c2:=o.cell K;have U:=a4.trans o;have a6:=o.heap a3;clear D Q K a4 J a3;go_wp2_with fail;refine(O.out _ U).mono ?_;rintro e w2 ⟨B,g1,cap1,g2,cap2,rfl,hP,L,hB⟩;have D:=L.cell c0;have a7:=L.heap a6;have aC:=U.trans L;have b4:b+2<=R.heap.size:=by have:=o.size;omega
 clear c0 c1 c2 a6 o U HM O L;go_wp2;go_loopw [21] (λV wr=>∃i:Nat,i<=n/\V=N i/\gB wr B R.heap.size n g1 cap1 g2 cap2 (St i)/\wr.heap[b+1]?=some (.cells #[.int .i64 0,.int .i64 0,.slice none 0 0] 142 (0,0))/\Fr w wr) (λV _=>n-(intOf V).toNat);case atStart=>exact⟨0,ar _,rfl,hP,a7,aC⟩
 case round=>
  clear hP a7 aC D;obtain⟨i,hi,rfl,hP,z,F⟩:=hrel;by_cases ba:i<n
  ·have b6:(i:Int)<n:=ω;have X:=ad (Ux B R.heap.size n i g1 cap1 g2 cap2 (St i) wr hP ba I (av.out i ba));rw[HS.out]at X;go_wp2_with fail;apply X.z;rintro e w3 ⟨rfl,bk,Y⟩;have b7:=(hP.o1.lt g1 rfl).1;have b8:=(hP.o2.lt g2 rfl).1;have bl:=Y.heap z (λe=>by omega);have bm:Fr w w3:=ai.below F Y F.size (λk e=>by omega);clear hP z F Y X;go_wp2;go_roundw;case rel=>exact⟨i+1,ω,γ,bk,bl,bm⟩
   case measure=>exact μ
  ·obtain rfl:n=i:=ω;have b9:¬((n:Int)<n):=ω;have D:=hP.w2.c0;have Q:=hP.w2.c1;have K:=hP.w2.c2;have G:=hP.o2;rw[bc]at K G;rw[<- HI.out]at G;have bn:(Tryz.prog.info? 142).map (·.size)=some 3:=(by kernel_rfl);have bs:(#[N n,N n,.slice (some ⟨g2,0,none⟩) d cap2]:Array Value).all (·.oneCell')=true:=(by rw[iI];rfl);have q0:=mo wr (b+1) 0 _ #[N n,N n,.slice (some ⟨g2,0,none⟩) d cap2] _ _ z;have q1:=mo wr (b+1) 1 _ #[N n,N n,.slice (some ⟨g2,0,none⟩) d cap2] _ _ z;have q2:=mo wr (b+1) 2 _ #[N n,N n,.slice (some ⟨g2,0,none⟩) d cap2] _ _ z;have bu:Ow (wr.setRow (b+1) #[N n,N n,.slice (some ⟨g2,0,none⟩) d cap2]) b eB (.slice (some ⟨g2,0,none⟩) d cap2) IV:=(G.chg (dl wr (b+1) _) λq Z=>by have:=(G.lt q Z).1;show ¬q=b+1;omega).rebase ω;have bv:Fr w (wr.setRow (b+1) #[N n,N n,.slice (some ⟨g2,0,none⟩) d cap2]):=ai.below F (dl wr (b+1) _) F.size (λq Z=>by rw[Z];omega);clear hP HI HS av G;go_wp2_with (refine fz rfl 142 (.tmp 2) (.tmp 35) rfl (b+1) #[N n,N n,.slice (some ⟨g2,0,none⟩) d cap2] rfl rfl 142 _ z bn rfl bs ?_);exact bF (v:=.tuple #[.agg #[N n,N n,.slice (some ⟨g2,0,none⟩) d cap2],.int .i64 0]) (by simp[results,Tryz.results188,go_sem, *]) rfl ⟨_,rfl,bu,bv⟩
abbrev Ov(t l s x:Value):Obj:=.cells #[t,l,s,x] 62 (0,0)
def Oa(B base:Nat)(s:Cs)(b:Z0)(w:World)(O:aD w 224 B base b s.at_ s.er)(Q:b.length<=1000000):Calls Tryz.prog 144 #[.agg #[.pointer (some ⟨B,0,none⟩)],.bool false] w λe w'=>e=.returned (qL (iO false b s))/\aD w' 224 B base b (fF false b s).2.at_ (fF false b s).2.er/\ai (λk=>k=B) w w':=by
 have ab:Hid (∀W,aD W 224 B base b s.at_ s.er->Calls Tryz.prog 183 #[.pointer (some ⟨B,0,none⟩),N 4000] W λe w'=>e=.returned (S (kK false b s).1)/\aD w' 224 B base b (kK false b s).2.at_ (kK false b s).2.er/\ai (λb=>b=B) W w'):=λW h=>Cf 4000 δ B base s b W h Q;have ac:Hid (∀W,aD W 224 B base b (kK false b s).2.at_ (kK false b s).2.er->Calls Tryz.prog 183 #[.pointer (some ⟨B,0,none⟩),N 4000] W λe w'=>e=.returned (S (fF false b s).1)/\aD w' 224 B base b (fF false b s).2.at_ (fF false b s).2.er/\ai (λb=>b=B) W w'):=λW h=>Cf 4000 δ B base (kK false b s).2 b W h Q;have HR:Hid (qL (iO false b s)=.agg #[.int .u64 0,.int .u8 0,S (kK false b s).1,S (fF false b s).1]):=rfl;have bv:=O.lt;obtain⟨g,D⟩:∃g,g=w.heap.size:=⟨_,rfl⟩;obtain⟨m,F⟩:∃m,m=(w.alloc (.cells #[.pointer (some ⟨B,0,none⟩)] 219)).alloc (.cells #[.int .u64 0,.int .u8 0,.string ⟨#[]⟩,.string ⟨#[]⟩] 62):=⟨_,rfl⟩;have ak:Fr w (w.alloc (.cells #[.pointer (some ⟨B,0,none⟩)] 219)):=(Fr.refl w).alloc _;have R:Fr w m:=by rw[F];exact ak.alloc _
 have U:m.heap[g]?=some (.cells #[.pointer (some ⟨B,0,none⟩)] 219 (0,0)):=by rw[F,D];exact((Fr.refl _).alloc _).heap (aB _ _ _ rfl)
 have ap:m.heap[g+1]?=some (Ov (.int .u64 0) (.int .u8 0) (.string ⟨#[]⟩) (.string ⟨#[]⟩)):=by rw[F,D];exact aB _ _ _ σ
 have ku:=O.fr R;have av:B≠g:=ω
 have z:B≠g+1:=ω
 have c0:=ag U 0 rfl;have a0:=ad (ab.out m ku);generalize (fF false b s).1=x2,(kK false b s).1=d at *;have V:=ad D;have HW:=ad F;go_in;go_upto_region 5 with fail;rw[<- V.out,<- HW.out];clear D;go_wp2_with fail;apply a0.z;rintro e X ⟨rfl,a2,L⟩;have Y:=L.heap U (λe=>av e.symm);have G:=L.heap ap (λe=>z e.symm);have z2:=a8 G 2;have d2:=ag G 2 rfl;have d0:=ag Y 0 rfl;have o:=a9 X ⟨g+1,2,none⟩ (S d);have a3:=aJ G 2 (S d);have a4:=o.heap Y (λe=>by have e:g=g+1:=e;omega);have a5:=a2.box G δ z o;have a6:=(L.mono (G':=λk=>k=B\/k=g+1) (λk hk h=>.inl h)).trans o (λ_ _ h=>.inr h);go_upto_region 5 with fail;generalize b3:X.setCell ⟨g+1,2,none⟩ (S d)=W2 at *;have ba:=a3;have e0:=ag a4 0 rfl;have bb:=ad (ac.out W2 a5);go_wp2_with fail;apply bb.z;rintro e I ⟨rfl,bc,Z⟩;have J:=Z.heap ba (λe=>z e.symm);have z3:=a8 J 3;have d3:=ag J 3 rfl;have o:=a9 I ⟨g+1,3,none⟩ (S x2);have bd:=aJ J 3 (S x2);have bf:=bc.box J δ z o;have bk:=(a6.trans Z (λ_ _ h=>.inl h)).trans o (λ_ _ h=>.inr h);have K:=bd;have M:(Tryz.prog.info? 62).map (·.size)=some 4:=by kernel_rfl
 have bl:(#[Value.int .u64 0,.int .u8 0,S d,S x2]:Array Value).all (·.oneCell')=true:=by rw[iI];rfl
 have aa:=dl (I.setCell ⟨g+1,3,none⟩ (S x2)) (g+1) #[Value.int .u64 0,.int .u8 0,S d,S x2];have bm:=bf.box K δ z aa;have bn:=iq (I.setCell ⟨g+1,3,none⟩ (S x2)) (g+1) _ #[Value.int .u64 0,.int .u8 0,S d,S x2] _ _ K;have bs:=bk.trans aa (λ_ _ h=>.inr h);have HF:Hid (ai (λk=>k=B) w ((I.setCell ⟨g+1,3,none⟩ (S x2)).setRow (g+1) #[Value.int .u64 0,.int .u8 0,S d,S x2])):=(R.chg (λk=>k=B)).trans bs (λk hk h=>by rcases h with h | h;exact h;rw[V.out]at h;omega);go_wp2_with (first | (refine ml rfl 62 (.tmp 4) rfl (g+1) rfl 62 #[.int .u64 0,.int .u8 0,S d,S x2] (0,0) _ K Tryz.underlying62 rfl M ?_) | (refine fz rfl 62 (.tmp 4) (.tmp 22) rfl (g+1) #[.int .u64 0,.int .u8 0,S d,S x2] rfl rfl 62 _ K M rfl bl ?_));go_wp2_with fail;refine bF (v:=.agg #[.int .u64 0,.int .u8 0,S d,S x2]) (vZ Tryz.results144 _ _ (g+1) 62 #[.int .u64 0,.int .u8 0,S d,S x2] (0,0) _ rfl bn Tryz.underlying62 rfl M) rfl ?_;exact⟨by rw[HR.out],bm,HF.out⟩
def WX(d:Bool)(b4:Hid (∀(B base:Nat) (s:Cs) (b:Z0) (W:World),aD W 224 B base b s.at_ s.er->b.length<=1000000->base<=W.heap.size->Calls Tryz.prog 144 #[.agg #[.pointer (some ⟨B,0,none⟩)],.bool d] W λe w'=>e=.returned (qL (iO d b s))/\aD w' 224 B base b (fF d b s).2.at_ (fF d b s).2.er/\ai (λk=>k=B) W w'))
  (v:Value) (b:Z0) (w:World) (hs:ah w eB v b) (hl:b.length<=1000000) :
  Calls Tryz.prog 94 #[.bool d,v] w λe w'=>∃u,e=.returned (.tuple #[u,.int .i64 ((iN d b).2:Int)])/\Ow w' w.heap.size eR u (iN d b).1/\Fr w w':=by
 have a6:=ad (qm v b w hs hl);have b5:=ad (λB s W h hb=>b4.out B w.heap.size s b W h hl hb);have b7:=ad (λB n L W (h:aD W 224 B w.heap.size b n L)=>J4 B w.heap.size n L b W h);have b8:=ad (λB n L W (h:aD W 224 B w.heap.size b n L)=>ld B w.heap.size n L b W h);have b9:=ad (EG d b);have bA:=ad (EF d b);have bB:=ad (Od d b);have bL:=ad (EK d b);have bR:=ad (Ot d b);have a7:Hid (iN d b=kJ d b b.length ⟨0,0⟩ []):=rfl;generalize iN d b=R at *;obtain⟨a0,c7,rfl,_⟩:=hs.shape;clear hs;have bT:(Tryz.prog.info? 62).map (·.size)=some 4:=by kernel_rfl
 go_in;go_wp2_with fail;apply a6.z;rintro e D ⟨B,rfl,hC,Z,hB⟩;have c8:=hC.lt;have aC:(D.alloc (.cells #[.pointer (some ⟨B,0,none⟩)] 219)).heap[D.heap.size]?=some (.cells #[.pointer (some ⟨B,0,none⟩)] 219 (0,0)):=aB _ _ _ rfl;have aa:Fr D (D.alloc (.cells #[.pointer (some ⟨B,0,none⟩)] 219)):=(Fr.refl D).alloc _;have ku:=hC.fr aa;have ba:=Z.trans aa;have cA:w.heap.size<=D.heap.size:=Z.size;go_upto_region 4 with fail;generalize D.alloc (.cells #[.pointer (some ⟨B,0,none⟩)] 219)=W0 at *;generalize D.heap.size=g at *;clear hC Z aa a6;have cb:B≠g:=ω
 go_loopw [7] (λov wr=>∃(f:Nat) (s:Cs) (o:List aq),s.er=0/\b.length<=f+s.at_/\o.length<=s.at_/\s.at_<=b.length/\Ow wr w.heap.size eR ov o/\aD wr 224 B w.heap.size b s.at_ s.er/\wr.heap[g]?=some (.cells #[.pointer (some ⟨B,0,none⟩)] 219 (0,0))/\Hid (R=kJ d b f s o)/\Fr w wr) (λov _=>b.length-(match ov with | .slice _ m _=>m | _=>0));case atStart=>exact⟨b.length,⟨0,0⟩,[],rfl,al _,al _,ar _,Ow.nil,ku,aC,a7.out,ba⟩
 case round=>
  clear aC ku ba a7;obtain⟨f,s,o,he,cE,cF,cf,V,hC,hG,HR,hf⟩:=hrel;have c0:=ag hG 0 rfl;have G:=ad (b7.out B _ _ wr hC);obtain⟨oa,oc,rfl⟩:=V.shape';by_cases bc:s.at_<b.length
  ·obtain⟨I,rfl⟩:∃I,f=I+1:=by
     cases f with
     | zero=>omega
     | succ I=>exact⟨I,rfl⟩
   have i1:(0:Int)<(b.length:Int) - s.at_:=(by omega);go_wp2_with fail;apply G.z;rintro e w2 ⟨rfl,z⟩;have ap:=hC.fr z;have bk:=z.heap hG;have M:=V.fr z;have c2:=z.cell c0;have J:=hf.trans z;have bl:=ad (b5.out B s w2 ap J.size);have ch:((b.length - s.at_:Nat):Int)=(b.length:Int) - s.at_:=(by omega);have i2:(0:Int)<((b.length - s.at_:Nat):Int):=(by omega);generalize b.length - s.at_=m at *;clear V hC hG c0 hf z G i1 ch;go_wp2_with fail;apply bl.z;rintro e F ⟨rfl,av,X⟩;have cR:=av.lt;have a1:=X.heap bk (fun e=>cb e.symm);have bm:=ap.cbox;have bn := M.chg X (fun i hi e => by
     obtain ⟨cs, h5⟩ := bm
     exact M.ne_cells h5 δ (by rw[hi, show i = B from e]))
   have bs:Fr w F:=ai.below J X J.size (λi e=>by rw[show i=B from e];exact hB);have c3:=ag a1 0 rfl;have K:Fr F (F.alloc (.cells #[.int .u64 ((iO d b s).time.toNat:Int),Fk.u8 (iO d b s).level,S (iO d b s).source,S (iO d b s).text] 62)):=(Fr.refl F).alloc _;have cl:(F.alloc (.cells #[.int .u64 ((iO d b s).time.toNat:Int),Fk.u8 (iO d b s).level,S (iO d b s).source,S (iO d b s).text] 62)).heap[F.heap.size]?=some (.cells #[.int .u64 ((iO d b s).time.toNat:Int),Fk.u8 (iO d b s).level,S (iO d b s).source,S (iO d b s).text] 62 (0,0)):=aB _ _ _ rfl;have HU:=ad (λh=>bL.out s h);have bv:=ad (λh=>bA.out I s o bc h);have bx:=ad (λh=>bB.out I s o bc h);have G:=ad (bR.out s cf);clear ap bk M c2 J X bm bl;generalize (fF d b s).2=s2,iO d b s=r at *;have b0:=av.fr K;have b1:=K.heap a1;have O:=bn.fr K;have c4:=K.cell c3;have Y:=bs.trans K;have a3:=ad (b8.out B _ _ _ b0);have cm:o.length+[r].length<=2147483648:=(by rw[show [r].length=1 from rfl];omega);clear av a1 bn c3 bs K;go_wp2_with fail;apply a3.z;rintro e w5 ⟨rfl,rfl⟩;generalize F.alloc (.cells #[.int .u64 (r.time.toNat:Int),Fk.u8 r.level,S r.source,S r.text] 62)=W4 at *;generalize F.heap.size=x3 at *;by_cases Q:s2.er=0
   ·have h0:((s2.er:Nat):Int)=0:=ω;have cp:=ad (bv.out Q);have dj:=(HU.out Q).2.1;have ds:(#[Value.int .u64 (r.time.toNat:Int),Fk.u8 r.level,S r.source,S r.text]:Array Value).size=4:=rfl;rw[h0];clear bx a3 h0 HU;go_wp2_with (first | (refine ml rfl 62 (.tmp 8) rfl x3 rfl 62 #[.int .u64 (r.time.toNat:Int),Fk.u8 r.level,S r.source,S r.text] (0,0) _ cl Tryz.underlying62 rfl bT ?_) | (at_builtin;refine cW eR rfl (.tmp 26) (.tmp 28) 24 rfl Tryz.underlying24 w.heap.size rfl O [r] _ _ _ rfl rfl rfl cm Y.size ?_));intro v' w6 U;have cq:=b0.app O U δ δ;have ct:=U.chg'.heap b1 (O.ne_cells b1 δ);have cu:=U.below O Y (al _) Y.size;have a5:=U.own;obtain⟨va,vc,b2⟩:=a5.shape';rw[am,show [r].length=1 from rfl]at b2;subst b2;have cv:=ad a5;clear U a5 O;go_wp2;go_roundw;case rel=>exact⟨I,s2,o++[r],Q,ω,by rw[am];simp;omega,G.out,cv.out,cq,ct,by show _=_;rw[HR.out,cp.out],cu⟩
    case measure=>simp;omega
   ·have h0:¬((s2.er:Nat):Int)=0:=ω;have c1:=ad (bx.out Q);clear bv a3 HU Q G;go_wp2;go_ret2;rw[HR.out,c1.out];exact⟨_,rfl,Ow.nil,Y⟩
  ·have i1:¬(0:Int)<(b.length:Int)-s.at_:=ω;have hm:b.length-s.at_=0:=ω;have c5:=ad (b9.out f s o ω he);rw[hm]at G;clear hm;go_wp2_with fail;apply G.z;rintro e w2 ⟨rfl,z⟩;have M:=V.fr z;have J:=hf.trans z;go_wp2;go_ret2;rw[HR.out,c5.out];exact⟨_,rfl,M,J⟩
def Y3(S:Nat->Nat->UInt8)(i k J:Nat):Nat->Nat->UInt8:=λr c=>if r=k/\c<J then S k c ^^^ aT (S k i) (S i c)else dK S i k r c
