/- Lemmas. -/
import Derived.Test.YtmcaneofjlhhmaaGreatDoorM14
import Derived.Test.YtmcaneofjlhhmaaGreatDoorM21
import Derived.Test.YtmcaneofjlhhmaaGreatDoorM15
set_option linter.all false
set_option maxHeartbeats 8000000
set_option maxRecDepth 100000
namespace Go.Fk
abbrev qI:=@Nat.le_mul_of_pos_right
end Go.Fk
namespace Go.Proofs
open RowKit Fk Tryz
abbrev pZ(d:U0)(s:Nat):Nat->Int:=λl=>((if l=0 then 0 else b8 d l s:Nat):Int)
theorem FF:(#[.int .i64 0,.int .i64 0,.int .i64 0,.int .i64 0,.int .i64 0,.int .i64 0,.int .i64 0,.int .i64 0,.int .i64 0,.int .i64 0,.int .i64 0,.int .i64 0,.int .i64 0,.int .i64 0,.int .i64 0,.int .i64 0,.int .i64 0]:Array Value)=cI 17 (λ_=>0):=rfl
def zW(x:Nat):IntKind.u16.wrap (x:Int)=((x%65536:Nat):Int):=by
 simp only[IntKind.wrap,IntKind.bits,IntKind.signed];simp
def QO(v:Value)(d:U0)(w:World)(I:ao w eB v d)(hn:d.length<=300)(ap:∀c∈d,c.toNat<=15):Calls prog 312 #[v] w λe w'=>(df d=true->∃v',e=.returned (.tuple #[v',.int .i64 0])/\Ow w' w.heap.size eU v' (dD d))/\(df d=false->e=.returned (.tuple #[.slice none 0 0,.int .i64 7]))/\Fr w w':=by
 obtain⟨a,a4,rfl,c9,b1,cB⟩:=I.shape;unfold maxLen at b1;have V:=ad (Fo _ d w I hn ap);have a5:=ad (λW h=>DV (.slice a d.length a4) d W h hn ap);have av:(cI 16 (fi d)).size=16:=pk _ _;have a6:=yO 16 (fi d);have a7:(prog.info? 419).map (·.size)=some (cI 16 (fi d)).size:=by rw[av];kernel_rfl
 cases a8:df d with
 | false=>rw[a8]at V;go_in;go_wp2_with fail;refine V.out.mono ?_;rintro e w1 ⟨rfl,X⟩;go_wp2;go_ret2;exact⟨λh=>by simp at h,λ_=>rfl,X⟩
 | true=>
  rw[a8]at V;go_in;go_wp2_with fail;refine V.out.mono ?_;rintro e w1 ⟨rfl,X⟩;go_upto_region 4 with fail;have aC:=I.fr X;have ba:=ad (a5.out w1 aC);have bb:∀l,l<16->(cI 16 (fi d))[l]?=some (.int .i64 (fi d l)):=λl h=>so 16 _ l h;have bc:=ad bb;clear bb a5 V;generalize cI 16 (fi d)=R at *;go_wp2_with fail;refine ba.out.mono ?_;rintro e o ⟨rfl,bd⟩;have F:(o.alloc (.cells (cI 16 (λ_=>0)) 419)).heap[o.heap.size]?=some (.cells (cI 16 (λ_=>0)) 419 (0,0)):=aD _ _ _ rfl;have ab:Fr o (o.alloc (.cells (cI 16 (λ_=>0)) 419)):=(Fr.refl o).alloc _;rw[<- vq]at F ab;go_upto_region 5 with(refine bB rfl 419 (.tmp 5) (.tmp 20) rfl o.heap.size R rfl rfl 419 _ F a7 (by rw[av];rfl) a6 ?_);have L:=bY _ o.heap.size _ R 419 (0,0) F;have be:Fr o (World.setRow _ o.heap.size R):=ag.below ab (bh _ o.heap.size R) ab.size (λk hk=>gp hk.symm);generalize b3:World.setRow _ o.heap.size R=z at *;clear b3 F ab a6 a7 av ba;have M:=(X.trans bd).trans be;have hB:(z.alloc (.cells (cI 17 (λ_=>0)) 423)).heap[z.heap.size]?=some (.cells (cI 17 (λ_=>0)) 423 (0,0)):=aD _ _ _ rfl;have O:Fr z (z.alloc (.cells (cI 17 (λ_=>0)) 423)):=(Fr.refl z).alloc _;have ac:dW (z.alloc (.cells (cI 17 (λ_=>0)) 423)) z.heap.size 423 17 (λj=>if j<=1 then((bO d j:Nat):Int)else 0):=by
   unfold dW; rw [hB, yQ (f' := fun j => if j ≤ 1 then ((bO d j : Nat) : Int) else 0) fun j _ => by
     show (0 : Int) = _;by_cases h : j ≤ 1;·rw[an h];have : j = 0 ∨ j = 1 := ω;rcases this with rfl | rfl <;> rfl
     · rw[ae h]]
  have h3:=O.heap L;have cC:o.heap.size<z.heap.size:=(aX.1 L).1;rw[<- FF]at O ac h3;clear hB L;go_upto_region 6 with fail;generalize b4:z.alloc (.cells _ 423)=w4 at *;clear b4;have HN:Hid (∀W,ag (λk=>k=z.heap.size) w4 W->∀l,l<16->W.cell? ⟨o.heap.size,l,none⟩=some (.int .i64 (fi d l))):=λW h l hl=>by rw[aG (h.heap h3 ω)];exact bc.out l hl
  have b7:Hid (∀W,ag (λk=>k=z.heap.size) w4 W->ao W eB (.slice a d.length a4) d):=λW h=>
   I.fr (ag.below (M.trans O) h (M.trans O).size (λi hi=>by rw[hi];exact M.size))
  have az:Fr w w4:=M.trans O;have b9:=M.size;have bC:=ac.lt;have bG:=ad (λl=>Dw d l);have bL:=ad (λl h=>rW d l h);have bR:=ad (λl=>mY d l);clear bc h3 I aC X bd be M O;generalize hg:z.heap.size=g at *;clear hg;go_wp2;go_loopw [8] (λJ wr=>∃l:Nat,1<=l/\l<=16/\J=N l/\dW wr g 423 17 (λj=>if j<=l then((bO d j:Nat):Int)else 0)/\ag (λk=>k=g) w4 wr) (λJ _=>16-(intOf J).toNat);·exact⟨1,au _,ω,rfl,ac,ag.refl _ _⟩
  ·
   clear ac;obtain⟨l,bT,cE,rfl,p,D⟩:=hrel;by_cases bk:l<16
   ·have cF:(l:Int)<16:=ω;have e1:wr.cell? ⟨g,l,none⟩=some (.int .i64 ((bO d l:Nat):Int)):=p.cell' l ω (an (au _));have e2:wr.cell? ⟨o.heap.size,l,none⟩=some (.int .i64 ((aL d l:Nat):Int)):=(by have:=HN.out wr D l bk;rw[this];simp[fi];omega);have e3:=p.frozen (l+1);have e4:=p.cell (l+1) ω;have cN:bO d l<=40000000:=(by have L:=bG.out l;have Q:(2:Nat)^(l+1)<=65536*2:=ar (dn ω (show l+1<=17 by omega)) δ;have h3:d.length*2^(l+1)<=300*(65536*2):=bo hn Q;omega);have cR:=bR.out l;have bl:=ad (p.set (l+1) (((2*(bO d l+aL d l):Nat)):Int));have cf:Hid (dW (wr.setCell ⟨g,l+1,none⟩ (.int .i64 (((2*(bO d l+aL d l):Nat)):Int))) g 423 17 (λj=>if j<=l+1 then((bO d j:Nat):Int)else 0)):=bl.out.congr λj hj=>by
     show(if j=l+1 then _ else if j<=l then _ else _)=_;by_cases h:j=l+1;·subst h;rw[an rfl,an (au _),bL.out l bT]
     ·rw[ae h];by_cases Q:j<=l;·rw[an Q,an ω]
      ·rw[ae Q,ae ω]
    clear bl;generalize aL d l=cl,bO d l=U at *;have i1:(0:Int)<=l:=ω;have i2:l<16:=bk;have i3:(0:Int)<=(l:Int)+1:=ω;have i4:(l:Int)+1<17:=ω;have i5:(l:Int)<17:=ω;have cT:IntKind.i64.wrap ((U:Int)+cl)=((U+cl:Nat):Int):=(by rw[aA _ ω];omega);have da:IntKind.i64.wrap (((U+cl:Nat):Int)*2)=((2*(U+cl):Nat):Int):=(by rw[aA _ ω];omega);generalize cp:2*(U+cl)=mu at *;generalize cr:U+cl=su at *;have dc:mu<=90000000:=ω;have dd:o.heap.size≠g:=ω;clear cp cr;go_upto_region 9 with fail;go_region;all_goals go_wp2_with fail
    all_goals go_roundw
    ·exact⟨l+1,ω,ω,γ,cf.out.fr (Fr.drew (Fr.refl _)),D.trans ((ay wr ⟨g,l+1,none⟩ _).trans ((Fr.drew (Fr.refl _)).chg (λk=>k=g)) (λ_ _ h=>h)) (λ_ _ h=>h)⟩
    ·exact μ
   ·obtain rfl:l=16:=ω;have dj:¬(16:Int)<16:=ω;have aj:dW wr g 423 17 (pZ d 0):=p.congr λj hj=>by
     show(if j<=16 then _ else _)=_;rw[an ω];show((bO d j:Nat):Int)=((if j=0 then 0 else b8 d j 0:Nat):Int);by_cases h:j=0;·subst h;rfl
     ·rw[ae h,vE]
    have cs:=mS eU rfl rfl 226 uAK .i64 .i64 d.length ω;have bm:=ad (nN (base:=w4.heap.size) eU rfl rfl d.length ω wr D.size);have a1:Fr wr (wr.alloc (.cells (madeCells #[eU.z] d.length) eU.e)):=(Fr.refl wr).alloc _;have bq:=aj.fr a1;have bs:=D.trans (a1.chg (λk=>k=g)) (λ_ _ h=>h);have dk:=D.size;have ak:=jT d;have ct:=ad (λs h=>qd d s h);have cu:=ad (λl s h=>sR d l s h);have cv:=ad (λl s h=>zT d l s h hn);rw[show(eU:aJ prog Nat).e=234 from rfl]at *;generalize madeCells #[eU.z] d.length=T0 at *;go_wp2_with fail;generalize c1:wr.alloc (.cells T0 234)=w5 at *;clear c1 a1 p aj D;generalize c3:wr.heap.size=q at *;clear c3;have bt:=bm.out;clear bm cs;go_loopw [42] (λJ wr=>∃s:Nat,s<=d.length/\J=N s/\dW wr g 423 17 (pZ d s)/\Ow wr w4.heap.size eU (.slice (some ⟨q,0,none⟩) d.length d.length) ((dD d).take s++List.replicate (d.length-s) 0)/\ag (λk=>k=g) w4 wr) (λJ _=>d.length-(intOf J).toNat);·exact⟨0,ax _,rfl,bq,by simp only[oi,jl,Nat.sub_zero];exact bt,bs⟩
    ·
     clear bq bs bt;obtain⟨s,I,rfl,p,K,D⟩:=hrel;by_cases G:s<d.length
     ·obtain⟨b,ds,dv,hv,c0⟩:=(b7.out wr D).cell1 (λc=>Fk.u8 c) rfl s G;have dE:=ap _ (co G);have al:=ad (ct.out s G);have Y:=ad (λl=>cu.out l s G);have hz:d[s]=0↔d[s].toNat=0:=⟨λe=>by rw[e];rfl,λe=>fO.1 (by simpa using e)⟩;generalize d[s]=c at *;cases hv;have bv:((dD d).take s++List.replicate (d.length-s) 0).length=d.length:=ug _ _ _ _ ak I;have am:=ad (λx hx=>uf (dD d) 0 d.length s ak G x hx);generalize dT:c.toNat=m at *;have i1:(0:Int)<=s:=ω;have i2:(s:Int)<d.length:=ω;by_cases Z:m=0
      ·have c6:¬(0:Int)<m:=ω;have aj:dW wr g 423 17 (pZ d (s+1)):=p.congr λj hj=>by
        show((if j=0 then 0 else b8 d j s:Nat):Int)=((if j=0 then 0 else b8 d j (s+1):Nat):Int);by_cases h:j=0;·rw[an h,an h]
        ·rw[ae h,ae h,Y.out j,ae ω];rfl
       have a2:Hid (Ow wr w4.heap.size eU (.slice (some ⟨q,0,none⟩) d.length d.length) ((dD d).take (s+1)++List.replicate (d.length-(s+1)) 0)):=(by have L:=am.out 0 (by rw[al.out,an (hz.2 Z)]);show Ow _ _ _ _ _;rw[<- L];have Q:((dD d).take s++List.replicate (d.length-s) 0).set s 0=(dD d).take s++List.replicate (d.length-s) 0:=(by rw[List.set_append_right _ _ (by rw[aP];omega),show d.length-s=(d.length-(s+1))+1 by omega,zt];have:s-((dD d).take s).length=0:=(by rw[aP];omega);rw[this];rfl);rw[Q];exact K);clear am al Y K p;subst Z;go_wp2;go_roundw;·exact⟨s+1,ω,γ,aj,a2.out,D⟩
       ·exact μ
      ·have c6:(0:Int)<m:=ω;have eb:=cv.out m s ω;have e1:wr.cell? ⟨g,m,none⟩=some (.int .i64 ((b8 d m s:Nat):Int)):=p.cell' m ω (by simp[pZ,Z]);have e2:=p.frozen m;obtain⟨d1,d2⟩:=K.cellAt (λn:Nat=>Value.int .u16 (n:Int)) rfl s (by rw[bv];exact G);have a3:=ad (K.set (λn:Nat=>Value.int .u16 (n:Int)) rfl s (by rw[bv];exact G) (b8 d m s%65536) (.int .u16 ((b8 d m s%65536:Nat):Int)) rfl);have bx:(dD d)[s]'(by rw[ak];exact G)=b8 d m s%65536:=(by rw[al.out,ae (λe=>Z (hz.1 e))]);rw[am.out _ bx]at a3;have b0:=ad ((p.chg (ay wr ⟨q,s,none⟩ (.int .u16 ((b8 d m s%65536:Nat):Int))) (by show ¬g=q;omega)).set m (((b8 d m s:Nat):Int)+1));have c7:Hid (dW ((wr.setCell ⟨q,s,none⟩ (.int .u16 ((b8 d m s%65536:Nat):Int))).setCell ⟨g,m,none⟩ (.int .i64 (((b8 d m s:Nat):Int)+1))) g 423 17 (pZ d (s+1))):=b0.out.congr λj hj=>by
        show(if j=m then _ else((if j=0 then 0 else b8 d j s:Nat):Int))=((if j=0 then 0 else b8 d j (s+1):Nat):Int);by_cases h:j=m;·rw[an h,ae ω,Y.out j,an h.symm,h];rfl
        ·rw[ae h];by_cases F:j=0;·rw[an F,an F]
         ·rw[ae F,ae F,Y.out j,ae (jj h)];rfl
       have a2:=ad (de (r:=g) (i:=m) (u:=.int .i64 (((b8 d m s:Nat):Int)+1)) a3.out bC)
       have c8:Hid (ag (λk=>k=g) w4 ((wr.setCell ⟨q,s,none⟩ (.int .u16 ((b8 d m s%65536:Nat):Int))).setCell ⟨g,m,none⟩ (.int .i64 (((b8 d m s:Nat):Int)+1)))):=
        (D.trans (ay wr ⟨q,s,none⟩ _) (λi hi e=>by exfalso;have:i=q:=e;omega)).trans (ay _ ⟨g,m,none⟩ _) (λ_ _ h=>h)
       have hu:=zW (b8 d m s)
       have e3:(wr.setCell ⟨q,s,none⟩ (.int .u16 ((b8 d m s%65536:Nat):Int))).cell? ⟨g,m,none⟩=some (.int .i64 ((b8 d m s:Nat):Int)):=
        ((p.chg (ay wr ⟨q,s,none⟩ (.int .u16 ((b8 d m s%65536:Nat):Int))) (by show ¬g=q;omega))).cell' m ω (by simp[pZ,Z])
       clear a3 b0 am Y al p K D bx;generalize b8 d m s=vv,b8 d m s%65536=vm at *;have i3:(0:Int)<=m:=ω;have i4:(m:Int)<17:=ω;have i5:m<17:=ω;have i6:q≠g:=ω;have i7:g≠q:=ω;go_wp2;go_roundw;·exact⟨s+1,ω,γ,c7.out,a2.out,c8.out⟩
       ·exact μ
     ·obtain rfl:s=d.length:=ω;have es:¬(d.length:Int)<d.length:=ω;have e:(dD d).take d.length++List.replicate (d.length-d.length) 0=dD d:=(by rw[eA,uW,iJ,<- ak,dP]);rw[e]at K;go_wp2;go_ret2;refine⟨⟨_,rfl,K.rebase az.size⟩,ag.below az D az.size (λi hi=>by rw[hi];exact b9)⟩
def gK(d:U0)(l s:Nat):List Nat:=
 (List.range d.length).map λi=>if 1<=(d.getD i 0).toNat/\((d.getD i 0).toNat<l\/((d.getD i 0).toNat=l/\i<s))then b8 d (d.getD i 0).toNat i%65536 else 0
def qg(d:U0)(l s:Nat):(gK d l s).length=d.length:=by simp[gK]
def N1(d:U0):gK d 1 0=List.replicate d.length 0:=by
 apply jI;·simp[gK]
 ·intro i e f;simp only[gK,jm,lq,List.getElem_replicate];grind
def N2(d:U0)(l s:Nat)(h:s<d.length)(e:d[s].toNat≠l):gK d l (s+1)=gK d l s:=by
 unfold gK;grind
def N4(d:U0)(l s:Nat)(h:s<d.length)(o:1<=l)(p:d[s].toNat=l):(gK d l s).set s (b8 d l s%65536)=gK d l (s+1):=by
 have e:d.getD s 0=d[s]:=by rw[fx,cQ h];rfl
 apply sK;intro j;by_cases f:j<d.length
 ·by_cases m:s=j;·subst m;rw[List.getElem?_set_self (by rw[qg];exact h)];simp only[gK,List.getElem?_map,List.getElem?_range f,Option.map_some];grind
  ·rw[List.getElem?_set_ne m];simp only[gK,List.getElem?_map,List.getElem?_range f,Option.map_some];grind
 ·rw[jH (by rw[nz,qg];omega),jH (by rw[qg];omega)]
def N3(d:U0)(l:Nat):gK d l d.length=gK d (l+1) 0:=by
 unfold gK;refine lP λi e=>?_;grind
def N5(d:U0)(m:∀c∈d,c.toNat<=15):gK d 16 0=dD d:=by
 apply jI;·simp[gK,dD]
 ·intro i h p;have f:i<d.length:=(by rw[qg]at h;exact h);have e:d.getD i 0=d[i]:=(by rw[fx,cQ f];rfl);have:=m _ (co f);rw[qd d i f];simp only[gK,jm,lq];rw[e];by_cases o:d[i]=0;·simp_all
  ·have q:d[i].toNat≠0:=λe=>o ((sS _).2 e);grind
def jf(d:U0)(l s e f:Nat)(h:Bool):Prop:=
 (h=true/\f<=l/\(e+1)*2^(l-f)=b8 d l s)\/(h=false/\e=0/\b8 d l s=0)
def jf.start(d:U0):jf d 1 0 0 0 false:=.inr ⟨rfl,rfl,by rw[vE];rfl⟩
def jf.skip{d:U0}{l s f m:Nat}{o:Bool}(h:jf d l s f m o)(p:s<d.length)(q:d[s].toNat≠l):jf d l (s+1) f m o:=by
 have e:=sR d l s p;rw[ae q,g8]at e;unfold jf;rw[e];exact h
def jf.took{d:U0}{l s:Nat}(e:s<d.length)(f:d[s].toNat=l):jf d l (s+1) (b8 d l s) l true:=by
 refine .inl ⟨rfl,au _,?_⟩;rw[sR d l s e,an f,eA,Nat.pow_zero,eo]
def jf.level{d:U0}{l m f:Nat}{o:Bool}(h:jf d l d.length m f o)(z:1<=l):jf d (l+1) 0 m f o:=by
 have e:=Gq d l z;unfold jf;rw[e];rcases h with⟨p,D,q⟩ | ⟨p,D,q⟩;·refine .inl ⟨p,ω,?_⟩;rw[show l+1-f=(l-f)+1 by omega,gE,<- q];simp[g7,Nat.mul_left_comm]
 ·grind
def PZ(v:Value)(m:U0)(w:World)(hs:ao w eB v m)(hn:m.length<=300)(cj:0<m.length)(ac:∀c∈m,c.toNat<=15):Calls prog 272 #[v] w λe w'=>(df m=true->∃v',e=.returned (.tuple #[v',.int .i64 0])/\Ow w' w.heap.size eU v' (dD m))/\(df m=false->e=.returned (.tuple #[.slice none 0 0,.int .i64 7]))/\Fr w w':=by
 obtain⟨a,bv,rfl,ck,bx,cl⟩:=hs.shape;unfold maxLen at bx;have X:=ad (EY _ m w hs hn ac)
 cases bc:df m with
 | false=>rw[bc]at X;go_in;go_wp2_with fail;refine X.out.mono ?_;rintro e w1 ⟨rfl,ah⟩;go_wp2;go_ret2;exact⟨λh=>by simp at h,λ_=>rfl,ah⟩
 | true=>
  rw[bc]at X;go_in;go_wp2_with fail;refine X.out.mono ?_;rintro e w1 ⟨rfl,ah⟩;go_wp2;go_loopw [4,5] (λov iv wr=>∃k:Nat,k<=m.length/\iv=N k/\Ow wr w.heap.size eU ov (List.replicate k 0)/\Fr w wr) (λ_ iv _=>m.length-(intOf iv).toNat);·exact⟨0,ax _,rfl,Ow.nil,ah⟩
  ·
   obtain⟨k,hk,rfl,q,K⟩:=hrel;by_cases cp:k<m.length
   ·have b2:(k:Int)<m.length:=ω;go_wp2_with (at_builtin;refine bA eU rfl (.tmp 21) (.tmp 22) 226 rfl uAK w.heap.size rfl q [0] _ _ _ rfl rfl rfl (by simp;omega) K.size ?_);intro v' w4 bd;have b3:Ow w4 w.heap.size eU v' (List.replicate (k+1) 0):=(by rw[List.replicate_succ'];exact bd.own);go_wp2;go_roundw;·exact⟨k+1,ω,γ,b3,bd.below q K (au _) K.size⟩
    ·exact μ
   ·obtain rfl:k=m.length:=ω;have b2:¬(m.length:Int)<m.length:=ω;by_cases h0:m.length=0;·omega
    ·obtain⟨g,Y,be,bf,cr,cs,ct⟩:=q.atHead (by intro e;rw[List.replicate_eq_nil_iff]at e;omega);rw[jF]at be;subst be;rw[<- N1]at q;generalize wr=w2 at *
     have b4:Hid (∀W,ag (λk=>k=g) w2 W->ao W eB (.slice a m.length bv) m):=λW h=>
      hs.fr (ag.below K h K.size (λi hi=>by rw[hi];exact bf))
     have b5:=ad (λl s h=>zT m l s h hn);have b6:=ad (N5 m ac);have b7:=ad (λl=>N3 m l);have b9:=ad q;clear q;go_wp2;go_loopw [6,7,8,9] (λO tv av lv wr=>∃(l D F:Nat) (G:Bool),1<=l/\l<=16/\lv=N l/\O=N D/\tv=N F/\av=.bool G/\D<=20000000/\F<=15/\Hid (jf m l 0 D F G)/\Ow wr w.heap.size eU (.slice (some ⟨g,0,none⟩) m.length Y) (gK m l 0)/\ag (λk=>k=g) w2 wr) (λ_ _ _ lv _=>16-(intOf lv).toNat);·exact⟨1,0,0,false,au _,ω,rfl,rfl,rfl,rfl,ω,ω,jf.start m,b9.out,ag.refl _ _⟩
     ·
      obtain⟨l,D,F,G,bk,cu,rfl,rfl,rfl,rfl,Q,R,I,q,z⟩:=hrel;by_cases cv:l<16
      ·have bC:(l:Int)<=15:=ω;go_wp2_with fail;generalize wr=wo at *;go_loopw [6,7,8,10] (λO tv av sv wr=>∃(s D F:Nat) (G:Bool),s<=m.length/\sv=N s/\O=N D/\tv=N F/\av=.bool G/\D<=20000000/\F<=15/\Hid (jf m l s D F G)/\Ow wr w.heap.size eU (.slice (some ⟨g,0,none⟩) m.length Y) (gK m l s)/\ag (λk=>k=g) w2 wr) (λ_ _ _ sv _=>m.length-(intOf sv).toNat);·exact⟨0,D,F,G,ax _,rfl,rfl,rfl,rfl,Q,R,I,q,z⟩
       ·
        clear Q R I q z;obtain⟨s,D,F,G,c1,rfl,rfl,rfl,rfl,Q,R,I,q,z⟩:=hrel;by_cases J:s<m.length
        ·obtain⟨b,bG,c3,hv,c0⟩:=sl (b4.out wr z) s J;have c4:=ac _ (co J);have a0:=ad (λz=>N2 m l s J z);have HEq:=ad (λz=>N4 m l s J bk z);have a1:=ad (λz=>I.out.skip J z);have a2:=ad (λz=>jf.took (l:=l) J z);generalize m[s]=c at *;cases hv;replace c0:wr.cell? ⟨b,bG+s,none⟩=some (.int .u8 ((c.toNat:Nat):Int)):=c0;generalize c.toNat=o at *;have i1:(0:Int)<=s:=ω;have i2:(s:Int)<m.length:=ω;have c7:=aA (o:Int) ω;by_cases a3:o=l
         ·subst a3;have bm:((o:Int) == o)=true:=σ;have a4:o<=15:=ω;have a5:Hid (∀W,Ow W w.heap.size eU (.slice (some ⟨g,0,none⟩) m.length Y) (gK m o s)->(∃d,W.cell? ⟨g,s,none⟩=some (.int .u16 d))/\W.frozen? ⟨g,s,none⟩=false/\Ow (W.setCell ⟨g,s,none⟩ (.int .u16 ((b8 m o s%65536:Nat):Int))) w.heap.size eU (.slice (some ⟨g,0,none⟩) m.length Y) (gK m o (s+1))):=λW h=>(by obtain⟨Z,d2⟩:=h.cellAt (λn:Nat=>Value.int .u16 (n:Int)) rfl s (by rw[qg];exact J);have h3:=h.set (λn:Nat=>Value.int .u16 (n:Int)) rfl s (by rw[qg];exact J) (b8 m o s%65536) (.int .u16 ((b8 m o s%65536:Nat):Int)) rfl;rw[HEq.out rfl]at h3;exact⟨⟨_,Z⟩,d2,h3⟩);have L:=ad (a2.out rfl);have hu:=zW (b8 m o s);have c9:=b5.out o s a4;have a6:Hid ((G=true/\F<=o/\(D+1)*2^(o-F)=b8 m o s)\/(G=false/\D=0/\b8 m o s=0)):=I.out;obtain⟨⟨dd,Z⟩,d2,U⟩:=a5.out wr q;have V:=ad U;clear a0 HEq a1 a2 I U;generalize bS:b8 m o s=M at *;clear bS;rcases a6.out with⟨ha,bT,a8⟩ | ⟨ha,ca,cb⟩
          ·subst ha;have cc:D+1<=M:=(by rw[<- a8];exact qI _ (lm _));have bs:=ad a8;clear a8 a6 Z d2 V;go_wp2_with fail;generalize wr=wz at *;go_loopw [6,11] (λO kv wr=>∃(k p:Nat),F<=k/\k<=o/\kv=N k/\O=N p/\p<=M/\Hid (p*2^(o-k)=M)/\wz=wr) (λ_ kv _=>o-(intOf kv).toNat);·exact⟨F,D+1,au _,bT,rfl,by first | rfl | go_num,cc,bs.out,by first | rfl | trivial⟩
           ·
            obtain⟨k,p,cB,cC,rfl,rfl,hp,HP,rfl⟩:=hrel;by_cases cF:k<o
            ·have cf:(k:Int)<o:=ω;have bt:Hid (2*p*2^(o-(k+1))=M):=ad (by rw[<- HP.out,show o-k=(o-(k+1))+1 by omega,gE,g7 2 p,Nat.mul_assoc,g7 2]);have ch:2*p<=M:=(by rw[<- bt.out];exact qI _ (lm _));go_wp2;go_roundw;·exact⟨k+1,2*p,ω,ω,γ,γ,ch,bt,by first | rfl | trivial⟩
             ·exact μ
            ·obtain rfl:k=o:=ω;have cf:¬(k:Int)<k:=ω;have ci:p=M:=(by have:=HP.out;rw[eA,Nat.pow_zero,eo]at this;exact this);subst ci;obtain⟨⟨dd,Z⟩,d2,U⟩:=a5.out wz q;have V:=ad U;clear U HP bs;generalize p%65536=vm at *;go_wp2;go_roundw;·exact⟨s+1,p,k,true,ω,γ,rfl,rfl,rfl,ω,a4,L,V.out,z.trans (ay wz _ _) (λ_ _ h=>h)⟩
             ·exact μ
          ·subst ha ca cb;have cN:IntKind.u16.wrap 0=0:=δ;rw[Nat.zero_mod]at V;clear a5 a6;go_wp2;go_roundw;·exact⟨s+1,0,o,true,ω,γ,rfl,rfl,rfl,ω,a4,L,V.out,z.trans (ay wr _ _) (λ_ _ h=>h)⟩
           ·exact μ
         ·have bm:((o:Int) == l)=false:=(by simp;omega);have cR:¬(o:Int)=l:=ω;have cT:((o:Int) != l)=true:=(by rw[bne,bm];rfl);have bu:=q;rw[<- a0.out a3]at bu;have L:=ad (a1.out a3);clear a0 HEq a1 a2 I q;go_wp2;go_roundw;·exact⟨s+1,D,F,G,ω,γ,rfl,rfl,rfl,Q,R,L,bu,z⟩
          ·exact μ
        ·obtain rfl:s=m.length:=ω;have da:¬(m.length:Int)<m.length:=ω;rw[b7.out]at q;have L:=ad (I.out.level bk);clear I;go_wp2;go_roundw;·exact⟨l+1,D,F,G,ω,ω,γ,rfl,rfl,rfl,Q,R,L,q,z⟩
         ·exact μ
      ·obtain rfl:l=16:=ω;have bC:¬(16:Int)<=15:=ω;rw[b6.out]at q;go_wp2;go_ret2;exact⟨⟨_,rfl,q⟩,ag.below K z K.size (λi hi=>by rw[hi];exact bf)⟩
def PQ(v:Value)(d:U0)(w:World)(z:ao w eB v d)(hn:d.length<=300)(ak:0<d.length)(al:∀c∈d,c.toNat<=15)(X:df d=true):Calls prog 220 #[v] w λe w'=>∃D F,e=.returned (.tuple #[.agg #[D,F],.int .i64 0])/\Ow w' w.heap.size eB D d/\Ow w' w.heap.size eU F (dD d)/\Fr w w':=by
 have HC:=ad (λW h=>PZ v d W h hn ak al);have Y:=ad (λW (h:Fr w W)=>z.fr h);obtain⟨a,a9,rfl,aC,ap,ba⟩:=z.shape;unfold maxLen at ap;clear z;have G:Fr w (w.alloc (.cells #[.slice none 0 0,.slice none 0 0] 288)):=(Fr.refl w).alloc _;have Z:(w.alloc (.cells #[.slice none 0 0,.slice none 0 0] 288)).heap[w.heap.size]?=some (.cells #[.slice none 0 0,.slice none 0 0] 288 (0,0)):=aD _ _ _ rfl;have av:=ad (HC.out _ (Y.out _ G));go_in;go_wp2_with fail;refine av.out.mono ?_;rintro e m ⟨ht,_,aa⟩;obtain⟨F,rfl,ab⟩:=ht X;have I:=G.trans aa;have a0:=aa.heap Z;have J:Ow (m.alloc (.cells #[] 5)) m.heap.size eB (.slice (some ⟨m.heap.size,0,none⟩) 0 0) []:=md eB m #[] [] 0 rfl (by simp[maxLen]) (au _);have ac:=(Y.out m I).fr ((Fr.refl m).alloc (.cells #[] 5));have a1:([]:U0).length+d.length<=2147483648:=by simp;omega
 clear G Z X;go_wp2_with (at_builtin;refine fT eB rfl (.tmp 15) (.tmp 16) 22 rfl sJ m.heap.size rfl J _ _ rfl ac a1 ((Fr.refl m).alloc _).size ?_);intro D w4 K;have L:Fr m w4:=K.below J ((Fr.refl m).alloc _) (au _) ((Fr.refl m).alloc _).size;have ah:Fr w w4:=I.trans L;have o:=L.heap a0;have q:=(ab.fr L).rebase (show w.heap.size<=_ by simp);have M:=K.own.rebase I.size;obtain⟨O,Q,a2⟩:=M.shape';subst a2;obtain⟨R,U,a3⟩:=q.shape';subst a3;have e0:=af o 0 rfl;have e1:=af o 1 rfl;have f0:w4.frozen? ⟨w.heap.size,0,none⟩=false:=aB o 0;have f1:w4.frozen? ⟨w.heap.size,1,none⟩=false:=aB o 1;clear K J ac ab;go_wp2_with fail;rw[jT]
 have h1:((w4.setCell ⟨w.heap.size,0,none⟩ (.slice O d.length Q)).setCell ⟨w.heap.size,1,none⟩ (.slice R d.length U)).heap[w.heap.size]?=some (.cells #[.slice O d.length Q,.slice R d.length U] 288 (0,0)):=
  aI (aI o 0 _) 1 _
 have a5:=M.ne_cells o δ;have ai:=q.ne_cells o δ
 have V:ag (λk=>k=w.heap.size) w4 ((w4.setCell ⟨w.heap.size,0,none⟩ (.slice O d.length Q)).setCell ⟨w.heap.size,1,none⟩ (.slice R d.length U)):=
  (ay w4 ⟨w.heap.size,0,none⟩ _).trans (ay _ ⟨w.heap.size,1,none⟩ _) (λ_ _ h=>h)
 rw[jT]at q ai;have a6:=M.chg V (λk p e=>a5 (by rw[p,e]));have a7:=q.chg V (λk p e=>ai (by rw[p,e]));have a8:Fr w _:=ag.below ah V ah.size (λk p=>gp p.symm);exact aT (mL results220 _ _ w.heap.size 288 _ (0,0) _ _ rfl rfl h1 underlying288 rfl (by kernel_rfl)) rfl ⟨_,_,rfl,a6,a7,a8⟩
structure eM (w:World) (base g:Nat) (lens:U0) (s:Nat) (c:Nat->Value):Prop where
 arr:g6 w g 363 50 c
 own0:Ow w base eB (c 0) lens
 own1:Ow w base eU (c 1) (dD lens)
 first:∀l,1<=l->l<16->c (2+l)=N (fM lens s l)
 many:∀l,1<=l->l<16->c (18+l)=N (aL (lens.take s) l)
 syms:∀l,1<=l->l<16->Ow w base eJ (c (34+l)) (sM lens s l)
 apart:∀j k,1<=j->j<16->1<=k->k<16->j≠k->(c (34+j)).ownBlock=none\/(c (34+j)).ownBlock≠(c (34+k)).ownBlock
 up:base<=g
def Lu{O w Q w4:World}{base g s d:Nat}{o:U0}{c c2:Nat->Value}{v':Value}(f:eM w base g o s c)(X:Fr O w)(aa:O.heap.size<=base)(hg:base<=g)(R:s<o.length)(U:o[s].toNat=d)(Y:1<=d)(Z:d<16)
  (hA:g6 Q g 363 50 c2) (hch:ag (λk=>k=g) w Q) (e1:c2 (2+d)=N (bO o d%65536)) (e2:c2 (18+d)=N (aL (o.take s) d+1))
  (e3:∀i,i≠2+d->i≠18+d->c2 i=c i) (hap:dF base eJ (sM o s d++[s]) Q (c (34+d)) v' w4) :
  eM (w4.setCell ⟨g,34+d,none⟩ v') base g o (s+1) (λj=>if j=34+d then v' else c2 j)/\Fr O (w4.setCell ⟨g,34+d,none⟩ v'):=by
 have ac:=f.syms d Y Z;have F:=ac.keepG f.arr δ hch;have D:=hA.chg hap.chg' (λe=>F.ne_cells hA δ e);have G:=ay w4 ⟨g,34+d,none⟩ v';refine⟨⟨D.set _ _,?_,?_,?_,?_,?_,?_,hg⟩,?_⟩;·rw[ae ω,e3 0 ω ω];have m:=f.own0.keepG f.arr δ hch;exact(hap.other m (lE m F δ)).keepG D δ G
 ·rw[ae ω,e3 1 ω ω];have m:=f.own1.keepG f.arr δ hch;exact(hap.other m (lE m F δ)).keepG D δ G
 ·intro l p q;rw[ae ω,Dz o s l R,U];by_cases e:l=d;·grind
  ·rw[ae (λh=>e h.symm),e3 _ ω ω];exact f.first l p q
 ·intro l p q;rw[ae ω,mj o s l R,U];by_cases e:l=d;·grind
  ·rw[ae (λh=>e h.symm),e3 _ ω ω];exact f.many l p q
 ·intro l p q;rw[tj o s l R,U];by_cases e:l=d;·subst e;rw[an rfl,an rfl];exact hap.own.keepG D δ G
  ·rw[ae ω,ae (λh=>e h.symm),iJ,e3 _ ω ω];have m:=(f.syms l p q).keepG f.arr δ hch;exact(hap.other m (f.apart l d p q Y Z e)).keepG D δ G
 ·intro j k I J K L V;by_cases e:j=d
  ·subst e;rw[an rfl,ae ω,e3 _ ω ω]
   cases W:v'.ownBlock with
   | none=>exact .inl rfl
   | some b=>
    refine .inr λM=>?_;rcases hap.fresh b W with h | h
    ·rcases f.apart j k I J K L V with z | z;·rw[z]at h;cases h
     ·exact z (h.trans M)
    ·have m:=(f.syms k K L).keepG f.arr δ hch;have:=(m.lt b M.symm).2;omega
  ·rw[ae ω,e3 _ ω ω];by_cases e':k=d
   ·subst e';rw[an rfl]
    cases W:v'.ownBlock with
    | none=>grind
    | some b=>
     rcases hap.fresh b W with h | h
     ·rcases f.apart j k I J K L V with z | z;·exact .inl z
      ·grind
     ·refine .inr λM=>?_;have m:=(f.syms j I J).keepG f.arr δ hch;have:=(m.lt b M).2;omega
   ·rw[ae ω,e3 _ ω ω];exact f.apart j k I J K L V
 ·have m:=ag.below X hch X.size (λi e=>by omega);exact eP (hap.below F m aa m.size) ω (ar m.size hap.size)
def iP(u v:Value)(i:Nat):Value:=if i=0 then u else if i=1 then v else if i<34 then N 0 else .slice none 0 0
def QC(v:Value)(d:U0)(w:World)(O:ao w eB v d)(hn:d.length<=300)(be:∀c∈d,c.toNat<=15)(cq:df d=true):Calls prog 277 #[v] w λe w'=>∃g c,e=.returned (.tuple #[.pointer (some ⟨g,0,none⟩),.int .i64 0])/\eM w' w.heap.size g d d.length c/\Fr w w':=by
 have HC:=ad (QO _ d w O hn be);have HS:=ad (λW (h:Fr w W)=>O.fr h);obtain⟨a,cs,rfl,fb,ct,fc⟩:=O.shape;unfold maxLen at ct;clear O;have cu:=ad (λW (h:ao W eB _ d)=>jY (.slice a d.length cs) d W h ω);go_in;go_wp2_with fail;refine HC.out.mono ?_;rintro e w1 ⟨ht,_,Q⟩;obtain⟨cv,rfl,bl⟩:=ht cq;obtain⟨ca,cc,bt⟩:=bl.shape';rw[jT]at bt;subst bt;have c3:=ad (cu.out w1 (HS.out w1 Q));go_wp2_with fail;refine c3.out.mono ?_;rintro e p ⟨lv,rfl,bu,aa⟩;obtain⟨la,lc,c4⟩:=bu.shape';subst c4;go_wp2;go_loopw [25] (λiv wr=>∃(s:Nat) (c:Nat->Value),s<=d.length/\iv=N s/\eM wr w.heap.size p.heap.size d s c/\Hid (c 0=.slice la d.length lc/\c 1=.slice ca d.length cc)/\Fr w wr) (λiv _=>d.length-(intOf iv).toNat)
 ·
  refine⟨0,iP (.slice la d.length lc) (.slice ca d.length cc),ax _,rfl,⟨?_,?_,?_,?_,?_,?_,?_,?_⟩,⟨rfl,rfl⟩,((Q.trans aa).alloc _)⟩;·exact aD _ _ _ rfl
  ·exact(bu.rebase Q.size).fr ((Fr.refl p).alloc _)
  ·exact(bl.fr aa).fr ((Fr.refl p).alloc _)
  ·intro l D F;rw[Mm];unfold iP;rw[ae ω,ae ω,an ω]
  ·intro l D F;rw[oi,qe];unfold iP;rw[ae ω,ae ω,an ω]
  ·intro l D F;rw[Ip];unfold iP;rw[ae ω,ae ω,ae ω];exact Ow.nil
  ·intro j k D F _ _ _;unfold iP;rw[ae ω,ae ω,ae ω];exact .inl rfl
  ·exact ar Q.size aa.size
 ·
  obtain⟨s,c,c5,rfl,z,R,L⟩:=hrel;by_cases G:s<d.length
  ·obtain⟨b,c6,fl,hv,c0⟩:=sl (HS.out wr L) s G;have fn:=be _ (co G);have hz:=ad (sS d[s]);have ai:=ad (λl=>mj d s l G);have b0:=ad (λl=>tj d s l G);have aj:=ad (λl=>Dz d s l G);have ak:=ad (Mb d s G);have b2:=ad (LZ d s);generalize hc:d[s]=x at *;cases hv;replace c0:wr.cell? ⟨b,c6+s,none⟩=some (.int .u8 ((x.toNat:Nat):Int)):=c0;generalize al:x.toNat=o at *;have i1:(0:Int)<=s:=ω;have i2:(s:Int)<d.length:=ω;by_cases hx:o=0
   ·subst hx;have HN:Hid (eM wr w.heap.size p.heap.size d (s+1) c):=by
     refine⟨z.arr,z.own0,z.own1,λl D F=>?_,λl D F=>?_,λl D F=>?_,z.apart,z.up⟩;·rw[aj.out,ae ω];exact z.first l D F
     ·rw[ai.out,ae ω];exact z.many l D F
     ·rw[b0.out,ae ω,iJ];exact z.syms l D F
    clear ai b0 aj ak b2 hz al;go_wp2;go_roundw;·exact⟨s+1,c,ω,γ,HN.out,R,L⟩
    ·exact μ
   ·have i3:(0:Int)<o:=ω;have i4:(o:Int)<16:=ω;have i5:¬(o:Int)=0:=ω;have U:o<16:=ω;have cB:x≠0:=λe=>hx (hz.out.1 e);have ap:=ad z;have cC:=ad (show d[s].toNat=o by rw[hc,al]);clear hz al;obtain⟨J,b3,av,hF,hM,b4,b5,cE⟩:=z;have fE:((o:Int) == 0)=false:=(by simp[hx]);have b6:c (18+o)=N (aL (d.take s) o):=hM o ω U;have b7:c (2+o)=N (fM d s o):=hF o ω U;have a0:=J.cell (18+o) ω b6;have f2:=J.frozen (2+o);have k2:=J.cell (2+o) ω b7;have a6:=av.see;rw[R.out.2]at a6;have a7:s<(dD d).length:=(by rw[jT];exact G);obtain⟨b1,cR,cap1,b9,I⟩:=a6.cell1 (λn=>Value.int .u16 (n:Int)) rfl s a7;have fN:=Ea d s a7;have cT:IntKind.i64.wrap (((dD d)[s]:Nat):Int)=(((dD d)[s]:Nat):Int):=aA _ ω;have a8:=ad (λh=>ak.out cB h);generalize hq:(dD d)[s]=q at *;rw[jT]at b9;cases b9;replace I:wr.cell? ⟨b1,cR+s,none⟩=some (.int .u16 (q:Int)):=I;have fP:=mY (d.take s) o;have fQ:(d.take s).length<=300:=(by rw[aP];omega);have db:=ad (ai.out o);have dc:=ad (aj.out o);have a9:=ad (b2.out o);clear hq ak a7;generalize hm:aL (d.take s) o=m at *;generalize fM d s o=f at *;have HA:=ad J;have HH:=ad (And.intro b3 (And.intro av (And.intro hF (And.intro hM (And.intro b4 b5)))));have dk:=ad hm;clear b3 av hF hM b4 b5 a6 hm;have dl:((m:Int) == 0)=decide (m=0):=(by by_cases h:m=0 <;> simp[h]);have bG:Hid (decide (m=0)=true->m=0):=λh=>(by simpa using h);have bL:Hid (decide (m=0)=false->m≠0):=λh=>(by simpa using h);generalize decide (m=0)=bm at *;go_upto_if 38 with fail;go_cut []from 39 to 48 (λwx=>∃I,g6 wx p.heap.size 363 50 I/\I (2+o)=N (bO d o%65536)/\(∀i,i≠2+o->I i=c i)/\ag (λk=>k=p.heap.size) wr wx)
    ·
     cases bm;·have aC:=ad (a9.out (bL.out (by first | rfl | trivial)));go_wp2;go_meet;exact⟨c,J,by rw[b7,aC.out],λ_ _=>rfl,ag.refl _ _⟩
     ·have aC:=ad (a8.out (bG.out (by first | rfl | trivial)));clear a8 dc a9 db;go_wp2;go_region;all_goals go_wp2_with fail
      all_goals go_meet
      exact⟨_,(J.set (2+o) (.int .i64 (q:Int))).drew,by rw[an rfl,aC.out],λi hi=>ae hi,(ay wr ⟨_,2+o,none⟩ _).trans ((Fr.drew (Fr.refl _)).chg (λk=>k=p.heap.size)) (λ_ _ h=>h)⟩
    ·
     generalize dz:wc=wd at *;clear dz;obtain⟨I,V,dE,M,bS⟩:=hcut;clear a8 a9 bG bL f2 k2 a0 cT dl;have dT:I (18+o)=N m:=(by rw[M _ ω,b6]);have a0:=V.cell (18+o) ω dT;have eb:=V.frozen (18+o);have fS:IntKind.i64.wrap ((m:Int)+1)=((m+1:Nat):Int):=(by rw[aA _ ω];omega);have X:=ad ((V.set (18+o) (.int .i64 ((m:Int)+1))).drew);have bb:Hid (ag (λk=>k=p.heap.size) wr (wd.setCell ⟨p.heap.size,18+o,none⟩ (.int .i64 ((m:Int)+1))).drew):=(bS.trans (ay wd ⟨_,18+o,none⟩ _) (λ_ _ h=>h)).trans ((Fr.drew (Fr.refl _)).chg (λk=>k=p.heap.size)) (λ_ _ h=>h);go_upto_region 11 with fail;go_region;all_goals go_wp2_with fail
     generalize ec:(wd.setCell ⟨p.heap.size,18+o,none⟩ (.int .i64 ((m:Int)+1))).drew=K at *;clear ec a0 eb V bS c0;have ef:=ad (λc2 v' w4 a1 a2 a3 a4 (a5:g6 K p.heap.size 363 50 c2)=>Lu (w4:=w4) (v':=v') (c2:=c2) ap.out L (au _) cE G cC.out ω U a5 bb.out a1 a2 a3 a4);have bT:=ap.out.syms o ω U;have cb:=vW d s o c5;have ev:=mY (d.take s) o;have Y:=bT.keepG ap.out.arr δ bb.out;obtain⟨sa,sc,bc⟩:=Y.shape';have cf:K.cell? ⟨p.heap.size,34+o,none⟩=some (c (34+o)):=X.out.cell (34+o) ω (by rw[ae ω,M _ ω]);have hD:=Y.drew;have ch:w.heap.size<=K.heap.size:=ar L.size bb.out.size;have e0:Hid (w.heap.size<=K.drew.heap.size):=ch;have ci:Fr K (K.alloc (.cells #[.int .i64 (s:Int)] 3)):=(Fr.refl K).alloc _;have e1:=ci.cell cf;have e2:Hid ((sM d s o).length+[s].length<=2147483648):=(by show _<=_;rw[cb];simp;omega);have cj:=Y.ne_cells X.out δ;have e5:=X.out;rw[bc]at hD cf e1 cj;have e6:=ad bc;generalize gc:sM d s o=m9 at *;clear ci bT Y cb ev bc ch HA HH J;go_upto_region 12 with fail
     go_region_law (refine oB eJ rfl (.tmp 66) (.tmp 68) 40 rfl uAC w.heap.size rfl hD [s] _ _ _ rfl rfl rfl e2.out e0.out ?_
                    intro v' w4 Z
                    have e7 := Z.own
                    have ck := ad Z
                    obtain ⟨va, vc, eC⟩ := e7.shape'
                    have k0 := e5.chg Z.chg' (λe => cj e)
                    have e3 := k0.cell (34 + o) ω rfl
                    have e4 := k0.frozen (34 + o)
                    clear Z
                    subst eC)
     all_goals (go_wp2_with fail
                rw[show (m9 ++ [s]).length = m9.length + 1 by simp] at ck
                have cm := ef.out _ (.slice va (m9.length + 1) vc) w4 (by rw[ae ω, dE]) (by rw[an rfl, dk.out]; rfl) (λi j1 j2 => by rw[ae j2, M i j1]) (by rw[e6.out]; exact ck.out) X.out
                go_roundw
                case rel => exact ⟨s + 1, _, by omega, by go_num, cm.1, ⟨by rw[ae ω, ae ω, M _ ω]; exact R.out.1, by rw[ae ω, ae ω, M _ ω]; exact R.out.2⟩, cm.2⟩
                case measure => simp[intOf]; omega)
  ·obtain rfl:s=d.length:=ω;have gi:¬(d.length:Int)<d.length:=ω;go_wp2;go_ret2;exact⟨_,rfl,⟨c,z⟩,L⟩
abbrev IZ(t l s x:Value):Obj:=.cells #[t,l,s,x] 54 (0,0)
def IR(B base:Nat)(s:Cs)(b:U0)(w:World)(L:aw w 247 B base b s.at_ s.er)(M:b.length<=1000000):Calls prog 133 #[.agg #[.pointer (some ⟨B,0,none⟩)],.bool false] w λe w'=>e=.returned (pR (gW false b s))/\aw w' 247 B base b (eW false b s).2.at_ (eW false b s).2.er/\ag (λk=>k=B) w w':=by
 have Z:Hid (∀W,aw W 247 B base b s.at_ s.er->Calls prog 197 _ W λe w'=>e=.returned (S (gI false b s).1)/\aw w' 247 B base b (gI false b s).2.at_ (gI false b s).2.er/\ag (λb=>b=B) W w'):=λW h=>yU 4000 δ B base s b W h M;have aa:Hid (∀W,aw W 247 B base b (gI false b s).2.at_ (gI false b s).2.er->Calls prog 197 #[.pointer (some ⟨B,0,none⟩),N 4000] W λe w'=>e=.returned (S (eW false b s).1)/\aw w' 247 B base b (eW false b s).2.at_ (eW false b s).2.er/\ag (λb=>b=B) W w'):=λW h=>yU 4000 δ B base (gI false b s).2 b W h M;have HR:Hid (pR (gW false b s)=.agg #[.int .u64 0,.int .u8 0,S (gI false b s).1,S (eW false b s).1]):=rfl;have bc:=L.lt;obtain⟨g,q⟩:∃g,g=w.heap.size:=⟨_,rfl⟩;obtain⟨m,z⟩:∃m,m=(w.alloc (.cells #[.pointer (some ⟨B,0,none⟩)] 191)).alloc (.cells #[.int .u64 0,.int .u8 0,.string ⟨#[]⟩,.string ⟨#[]⟩] 54):=⟨_,rfl⟩;have ac:Fr w (w.alloc (.cells #[.pointer (some ⟨B,0,none⟩)] 191)):=(Fr.refl w).alloc _;have O:Fr w m:=by rw[z];exact ac.alloc _
 have Q:m.heap[g]?=some (.cells #[.pointer (some ⟨B,0,none⟩)] 191 (0,0)):=by rw[z,q];exact((Fr.refl _).alloc _).heap (aD _ _ _ rfl)
 have ah:m.heap[g+1]?=some (IZ (.int .u64 0) (.int .u8 0) (.string ⟨#[]⟩) (.string ⟨#[]⟩)):=by rw[z,q];exact aD _ _ _ σ
 have iP:=L.fr O;have ai:B≠g:=ω
 have p:B≠g+1:=ω
 have c0:=af Q 0 rfl;have aj:=ad (Z.out m iP);generalize (eW false b s).1=x2,(gI false b s).1=d at *;have R:=ad q;have HW:=ad z;go_in;go_upto_region 5 with fail;rw[<- R.out,<- HW.out];clear q;go_wp2_with fail;apply aj.z;rintro e U ⟨rfl,al,J⟩;have V:=J.heap Q (λe=>ai e.symm);have D:=J.heap ah (λe=>p e.symm);have z2:=aB D 2;have d2:=af D 2 rfl;have d0:=af V 0 rfl;have o:=ay U ⟨g+1,2,none⟩ (S d);have am:=aI D 2 (S d);have ap:=o.heap V (λe=>by have e:g=g+1:=e;omega);have av:=al.box D δ p o;have az:=(J.mono (G':=λk=>k=B\/k=g+1) (λk hk h=>.inl h)).trans o (λ_ _ h=>.inr h);go_upto_region 5 with fail;generalize bl:U.setCell ⟨g+1,2,none⟩ (S d)=W2 at *;have a2:=am;have e0:=af ap 0 rfl;have a3:=ad (aa.out W2 av);go_wp2_with fail;apply a3.z;rintro e F ⟨rfl,a4,X⟩;have G:=X.heap a2 (λe=>p e.symm);have z3:=aB G 3;have d3:=af G 3 rfl;have o:=ay F ⟨g+1,3,none⟩ (S x2);have a5:=aI G 3 (S x2);have a6:=a4.box G δ p o;have a7:=(az.trans X (λ_ _ h=>.inl h)).trans o (λ_ _ h=>.inr h);have I:=a5;have K:(prog.info? 54).map (·.size)=some 4:=by kernel_rfl
 have a8:(#[Value.int .u64 0,.int .u8 0,S d,S x2]:Array Value).all (·.oneCell')=true:=by rw[dQ];rfl
 have Y:=bh (F.setCell ⟨g+1,3,none⟩ (S x2)) (g+1) #[Value.int .u64 0,.int .u8 0,S d,S x2];have a9:=a6.box I δ p Y;have aC:=bY (F.setCell ⟨g+1,3,none⟩ (S x2)) (g+1) _ #[Value.int .u64 0,.int .u8 0,S d,S x2] _ _ I;have ba:=a7.trans Y (λ_ _ h=>.inr h);have HF:Hid (ag (λk=>k=B) w ((F.setCell ⟨g+1,3,none⟩ (S x2)).setRow (g+1) #[Value.int .u64 0,.int .u8 0,S d,S x2])):=(O.chg (λk=>k=B)).trans ba (λk hk h=>by rcases h with h | h;exact h;rw[R.out]at h;omega);go_wp2_with (first | (refine dM rfl 54 (.tmp 4) rfl (g+1) rfl 54 #[.int .u64 0,.int .u8 0,S d,S x2] (0,0) _ I underlying54 rfl K ?_) | (refine bB rfl 54 (.tmp 4) (.tmp 22) rfl (g+1) #[.int .u64 0,.int .u8 0,S d,S x2] rfl rfl 54 _ I K rfl a8 ?_));go_wp2_with fail;refine aT (py results133 _ _ (g+1) 54 #[.int .u64 0,.int .u8 0,S d,S x2] (0,0) _ rfl aC underlying54 rfl K) rfl ?_;exact⟨by rw[HR.out],a9,HF.out⟩
def Qi(d:Bool)(bm:Hid (∀(B base:Nat) (s:Cs) (b:U0) (W:World),aw W 247 B base b s.at_ s.er->b.length<=1000000->base<=W.heap.size->Calls prog 133 #[.agg #[.pointer (some ⟨B,0,none⟩)],.bool d] W λe w'=>e=.returned (pR (gW d b s))/\aw w' 247 B base b (eW d b s).2.at_ (eW d b s).2.er/\ag (λk=>k=B) W w'))
  (v:Value) (b:U0) (w:World) (hs:ao w eB v b) (hl:b.length<=1000000) :
  Calls prog 68 #[.bool d,v] w λe w'=>∃u,e=.returned (.tuple #[u,.int .i64 ((eT d b).2:Int)])/\Ow w' w.heap.size eR u (eT d b).1/\Fr w w':=by
 have av:=ad (nm v b w hs hl);have bq:=ad (λB s W h hb=>bm.out B w.heap.size s b W h hl hb);have bt:=ad (λB n J W (h:aw W 247 B w.heap.size b n J)=>Fm B w.heap.size n J b W h);have bu:=ad (λB n J W (h:aw W 247 B w.heap.size b n J)=>jg B w.heap.size n J b W h);have bv:=ad (Bv d b);have bx:=ad (Bu d b);have b0:=ad (Bw d b);have b1:=ad (wE d b);have b2:=ad (B5 d b);have az:Hid (eT d b=iM d b b.length ⟨0,0⟩ []):=rfl;generalize eT d b=R at *;obtain⟨a0,ck,rfl,_⟩:=hs.shape;clear hs;have b3:(prog.info? 54).map (·.size)=some 4:=by kernel_rfl
 go_in;go_wp2_with fail;apply av.z;rintro e q ⟨B,rfl,hC,X,hB⟩;have cl:=hC.lt;have a1:(q.alloc (.cells #[.pointer (some ⟨B,0,none⟩)] 191)).heap[q.heap.size]?=some (.cells #[.pointer (some ⟨B,0,none⟩)] 191 (0,0)):=aD _ _ _ rfl;have Y:Fr q (q.alloc (.cells #[.pointer (some ⟨B,0,none⟩)] 191)):=(Fr.refl q).alloc _;have iP:=hC.fr Y;have a2:=X.trans Y;have cm:w.heap.size<=q.heap.size:=X.size;go_upto_region 4 with fail;generalize q.alloc (.cells #[.pointer (some ⟨B,0,none⟩)] 191)=W0 at *;generalize q.heap.size=g at *;clear hC X Y av;have b5:B≠g:=ω
 go_loopw [7] (λZ wr=>∃(f:Nat) (s:Cs) (o:List aQ),s.er=0/\b.length<=f+s.at_/\o.length<=s.at_/\s.at_<=b.length/\Ow wr w.heap.size eR Z o/\aw wr 247 B w.heap.size b s.at_ s.er/\wr.heap[g]?=some (.cells #[.pointer (some ⟨B,0,none⟩)] 191 (0,0))/\Hid (R=iM d b f s o)/\Fr w wr) (λZ _=>b.length-(match Z with | .slice _ m _=>m | _=>0));·exact⟨b.length,⟨0,0⟩,[],rfl,au _,au _,ax _,Ow.nil,iP,a1,az.out,a2⟩
 ·
  clear a1 iP a2 az;obtain⟨f,s,o,he,cp,cq,b7,Q,hC,hG,HR,hf⟩:=hrel;have c0:=af hG 0 rfl;have D:=ad (bt.out B _ _ wr hC);obtain⟨oa,oc,rfl⟩:=Q.shape';by_cases a4:s.at_<b.length
  ·obtain⟨F,rfl⟩:∃F,f=F+1:=by
     cases f with
     | zero=>omega
     | succ F=>exact⟨F,rfl⟩
   have i1:(0:Int)<(b.length:Int) - s.at_:=(by omega);go_wp2_with fail;apply D.z;rintro e w2 ⟨rfl,p⟩;have ah:=hC.fr p;have a7:=p.heap hG;have K:=Q.fr p;have c2:=p.cell c0;have G:=hf.trans p;have a8:=ad (bq.out B s w2 ah G.size);have b9:((b.length - s.at_:Nat):Int)=(b.length:Int) - s.at_:=(by omega);have i2:(0:Int)<((b.length - s.at_:Nat):Int):=(by omega);generalize b.length - s.at_=m at *;clear Q hC hG c0 hf p D i1 b9;go_wp2_with fail;apply a8.z;rintro e z ⟨rfl,ai,U⟩;have cv:=ai.lt;have aj:=U.heap a7 (fun e=>b5 e.symm);have a9:=ah.cbox;have aC := K.chg U (fun i hi e => by
     obtain ⟨cs, h5⟩ := a9
     exact K.ne_cells h5 δ (by rw[hi, show i = B from e]))
   have ba:Fr w z:=ag.below G U G.size (λi e=>by rw[show i=B from e];exact hB);have c3:=af aj 0 rfl;have I:Fr z (z.alloc (.cells #[.int .u64 ((gW d b s).time.toNat:Int),Fk.u8 (gW d b s).level,S (gW d b s).source,S (gW d b s).text] 54)):=(Fr.refl z).alloc _;have bL:(z.alloc (.cells #[.int .u64 ((gW d b s).time.toNat:Int),Fk.u8 (gW d b s).level,S (gW d b s).source,S (gW d b s).text] 54)).heap[z.heap.size]?=some (.cells #[.int .u64 ((gW d b s).time.toNat:Int),Fk.u8 (gW d b s).level,S (gW d b s).source,S (gW d b s).text] 54 (0,0)):=aD _ _ _ rfl;have HU:=ad (λh=>b1.out s h);have bc:=ad (λh=>bx.out F s o a4 h);have bd:=ad (λh=>b0.out F s o a4 h);have D:=ad (b2.out s b7);clear ah a7 K c2 G U a9 a8;generalize (eW d b s).2=s2,gW d b s=r at *;have be:=ai.fr I;have bf:=I.heap aj;have L:=aC.fr I;have c4:=I.cell c3;have V:=ba.trans I;have al:=ad (bu.out B _ _ _ be);have bR:o.length+[r].length<=2147483648:=(by rw[show [r].length=1 from rfl];omega);clear ai aj aC c3 ba I;go_wp2_with fail;apply al.z;rintro e w5 ⟨rfl,rfl⟩;generalize z.alloc (.cells #[.int .u64 (r.time.toNat:Int),Fk.u8 r.level,S r.source,S r.text] 54)=W4 at *;generalize z.heap.size=x3 at *;by_cases M:s2.er=0
   ·have h0:((s2.er:Nat):Int)=0:=ω;have bT:=ad (bc.out M);have c7:=(HU.out M).2.1;have c8:(#[Value.int .u64 (r.time.toNat:Int),Fk.u8 r.level,S r.source,S r.text]:Array Value).size=4:=rfl;rw[h0];clear bd al h0 HU;go_wp2_with (first | (refine dM rfl 54 (.tmp 8) rfl x3 rfl 54 #[.int .u64 (r.time.toNat:Int),Fk.u8 r.level,S r.source,S r.text] (0,0) _ bL underlying54 rfl b3 ?_) | (at_builtin;refine bA eR rfl (.tmp 26) (.tmp 28) 26 rfl uAL w.heap.size rfl L [r] _ _ _ rfl rfl rfl bR V.size ?_));intro v' w6 O;have ca:=be.app L O δ δ;have cb:=O.chg'.heap bf (L.ne_cells bf δ);have cc:=O.below L V (au _) V.size;have ap:=O.own;obtain⟨va,vc,bk⟩:=ap.shape';rw[aM,show [r].length=1 from rfl]at bk;subst bk;have cf:=ad ap;clear O ap L;go_wp2;go_roundw;·exact⟨F,s2,o++[r],M,ω,by rw[aM];simp;omega,D.out,cf.out,ca,cb,by show _=_;rw[HR.out,bT.out],cc⟩
    ·simp;omega
   ·have h0:¬((s2.er:Nat):Int)=0:=ω;have ch:=ad (bd.out M);clear bc al HU M D;go_wp2;go_ret2;rw[HR.out,ch.out];exact⟨_,rfl,Ow.nil,V⟩
  ·have i1:¬(0:Int)<(b.length:Int)-s.at_:=ω;have hm:b.length-s.at_=0:=ω;have ci:=ad (bv.out f s o ω he);rw[hm]at D;clear hm;go_wp2_with fail;apply D.z;rintro e w2 ⟨rfl,p⟩;have K:=Q.fr p;have G:=hf.trans p;go_wp2;go_ret2;rw[HR.out,ci.out];exact⟨_,rfl,K,G⟩
def oz(a b:Nat)(A B:Nat)(d:a<=A)(e:b<=B)(h:A*B<=1000000000):IntKind.i64.wrap ((a:Int)*b)=((a*b:Nat):Int):=by
 have:a*b<=A*B:=bo d e;rw[<- kQQb];exact dS _ ω
def Bh(R C i g n d base:Nat)(l:U0)(w:World)(m:Ow w base eB (.slice (some ⟨g,0,none⟩) n d) l)(o:l.length=R*C)(z:i<R)(hC:1<=C)(h:C<=255)(D:R<=255):Calls prog 284 #[.agg #[N R,N C,.slice (some ⟨g,0,none⟩) n d],N i] w λe w'=>e=.returned (.slice (some ⟨g,i*C,none⟩) C (d-i*C))/\Fr w w':=by
 have F:(i+1)*C=i*C+C:=by rw[bP,gl]
 have G:(i+1)*C<=R*C:=cY C z;have I:=bo D h;obtain⟨J,_⟩:=tq rfl 22 sJ m (i*C) ((i+1)*C) ω ω;have K:=oz i C 255 255 ω h ω;have L:IntKind.i64.wrap (((i:Int)+1)*C)=(((i+1)*C:Nat):Int):=oz (i+1) C 255 255 ω h ω;rw[show(i+1)*C-i*C=C by omega]at J;clear F G I o m;generalize (i+1)*C=q,i*C=p at *;go_in;go_wp2;go_ret;exact⟨rfl,(Fr.refl w).alloc _⟩
structure iS (w:World) (B o n g cap:Nat):Prop where
 c0:w.cell? ⟨B,o,none⟩=some (N n)
 c1:w.cell? ⟨B,o+1,none⟩=some (N n)
 c2:w.cell? ⟨B,o+2,none⟩=some (.slice (some ⟨g,0,none⟩) (n*n) cap)
def iS.fr{w w':World}{B o n g e:Nat}(h:iS w B o n g e)(d:Fr w w'):iS w' B o n g e:=⟨d.cell h.c0,d.cell h.c1,d.cell h.c2⟩
def ag.cell{G:Nat->Prop}{w w':World}(h:ag G w w'){a:Addr}{u:Value}(d:w.cell? a=some u)(e:¬G a.block):w'.cell? a=some u:=
 (qF (h.block a.block (pz w _ d) e)).trans d
def iS.chg{w w':World}{G:Nat->Prop}{B o n g f:Nat}(h:iS w B o n g f)(d:ag G w w')(e:¬G B):iS w' B o n g f:=⟨ag.cell d h.c0 e,ag.cell d h.c1 e,ag.cell d h.c2 e⟩
def n7(B o n i g d base:Nat)(l:U0)(w:World)(m:iS w B o n g d)(p:Ow w base eB (.slice (some ⟨g,0,none⟩) (n*n) d) l)(q:l.length=n*n)(z:i<n)(h:n<=255):Calls prog 315 #[.pointer (some ⟨B,o,none⟩),N i] w λe w'=>e=.returned (.slice (some ⟨g,i*n,none⟩) n (d-i*n))/\Fr w w':=by
 have D:=ad (Bh n n i g (n*n) d base l w p q z ω h h);obtain⟨G,I,c2⟩:=m;go_in;go_wp2_with fail;apply D.z;rintro e J ⟨rfl,F⟩;go_wp2;go_ret;exact⟨rfl,F⟩
def Ax(B o n i j g d base:Nat)(f:Nat->Nat->UInt8)(w:World)(q:iS w B o n g d)(m:Ow w base eB (.slice (some ⟨g,0,none⟩) (n*n) d) (aW n f (n*n)))(am:B≠g)(D:i<n)(F:j<n)(R:n<=255):Calls prog 316 #[.pointer (some ⟨B,o,none⟩),N i,N j] w λe w'=>e=.returned (.tuple #[])/\Ow w' base eB (.slice (some ⟨g,0,none⟩) (n*n) d) (aW n (et f i j) (n*n))/\ag (λk=>k=g) w w':=by
 have bk:=(m.lt g rfl).2;have U:=eg n f (n*n);have ap:i*n+n<=n*n:=by have:=cY n D;rw[ik]at this;exact this
 have av:j*n+n<=n*n:=by have:=cY n F;rw[ik]at this;exact this
 have V:=ad (λW l (q:iS W B o n g d) (m:Ow W base eB (.slice (some ⟨g,0,none⟩) (n*n) d) l) (I:l.length=n*n)=>n7 B o n i g d base l W q m I D R);have X:=ad (λW l (q:iS W B o n g d) (m:Ow W base eB (.slice (some ⟨g,0,none⟩) (n*n) d) l) (I:l.length=n*n)=>n7 B o n j g d base l W q m I F R);have S:=λi (D:i<n) (W:World) (p:Fr w W)=>(tq (E:=eB) (t:=22) rfl sJ (m.fr p) (i*n) ((i+1)*n) (by rw[ik];omega) (by rw[U];exact cY n D)).2;have SI:=ad (λW p=>by have:=S i D W p;rw[rD n f n i D,show(i+1)*n-i*n=n by rw[ik];omega]at this;exact this);have SJ:=ad (λW p=>by have:=S j F W p;rw[rD n f n j F,show(j+1)*n-j*n=n by rw[ik];omega]at this;exact this);have a0:=iL n f i;have a1:=iL n f j;have CI:=ad (λW p=>jY _ (cw n f i) W (SI.out W p) ω);have CJ:=ad (λW p=>jY _ (cw n f j) W (SJ.out W p) ω);have P1:Hid ((aW n f (n*n)).take (i*n)++(cw n f j++(aW n f (n*n)).drop (i*n+n))=aW n (i9 f i (f j)) (n*n)):=wL n f n i D (f j);have P2:Hid ((aW n (i9 f i (f j)) (n*n)).take (j*n)++(cw n f i++(aW n (i9 f i (f j)) (n*n)).drop (j*n+n))=aW n (et f i j) (n*n)):=by have:=wL n (i9 f i (f j)) n j F (f i);rw[Jg]at this;exact this
 have G:=ad U;have Y:=ad (eg n (i9 f i (f j)) (n*n));generalize cw n f j=rj,cw n f i=ri,aW n f (n*n)=z,aW n (i9 f i (f j)) (n*n)=z2 at *;have HI:=ad ap;have HJ:=ad av;go_in;go_wp2_with fail;refine(V.out _ _ q m G.out).mono ?_;rintro e w1 ⟨rfl,J⟩;go_wp2_with fail;refine(CI.out _ J).mono ?_;rintro e w2 ⟨v2,rfl,Z,a9⟩;have K:=J.trans a9;go_wp2_with fail;refine(X.out _ _ (q.fr K) (m.fr K) G.out).mono ?_;rintro e w3 ⟨rfl,aa⟩;have ab:=K.trans aa;go_wp2_with fail;refine(CJ.out _ ab).mono ?_;rintro e w4 ⟨v4,rfl,aC,ac⟩;have L:=ab.trans ac;have ba:=Z.fr (aa.trans ac);go_wp2_with fail;refine(V.out _ _ (q.fr L) (m.fr L) G.out).mono ?_;rintro e w5 ⟨rfl,M⟩;have ah:=L.trans M;have ai:0<n:=ω
 have bb:=aC.fr M;have bc:=ba.fr M;go_wp2_with (refine vA rfl rfl (.tmp 18) (.tmp 19) 22 22 rfl sJ g (i*n) n _ d _ _ z rj rfl rfl (m.fr ah) bb.see a1 ai (by rw[G.out];exact HI.out) ?_);intro w6 O aj;rw[P1.out]at O;have ak:=(ah.chg _).trans aj λ_ _ h=>h;have bd:=bc.chg aj λk hk e=>by have:=(Z.lt k hk).1;have:=J.size;omega
 go_wp2_with fail;refine(X.out _ _ (q.chg ak am) O Y.out).mono ?_;rintro e w7 ⟨rfl,Q⟩;go_wp2_with (refine vA rfl rfl (.tmp 23) (.tmp 24) 22 22 rfl sJ g (j*n) n _ d _ _ z2 ri rfl rfl (O.fr Q) (bd.fr Q).see a0 ai (by rw[Y.out];exact HJ.out) ?_);intro w8 al bf;rw[P2.out]at al;go_wp2;go_end0;exact⟨rfl,al,(ak.trans (Q.chg _) λ_ _ h=>h).trans bf λ_ _ h=>h⟩
def rC{w:World}{base g m p n:Nat}{f:Nat->Nat->UInt8}(q:Ow w base eB (.slice (some ⟨g,0,none⟩) m p) (aW n f (n*n)))(r j:Nat)(d:r<n)(z:j<n):w.cell? ⟨g,r*n+j,none⟩=some (.int .u8 ((f r j).toNat:Int))/\w.frozen? ⟨g,r*n+j,none⟩=false:=by
 have h:r*n+j<n*n:=by have:=cY n d;rw[ik]at this;omega
 obtain⟨o,D⟩:=q.cellAt Fk.u8 rfl (r*n+j) (by rw[eg];exact h);have e:=tH n f n r j d z;rw[ce _ _ _ (by rw[eg];exact h)]at e;rw[e]at o;exact⟨o,D⟩
def iW(f:Nat->Nat->UInt8)(i:Nat)(c:UInt8)(k:Nat):Nat->Nat->UInt8:=λr j=>if r=i/\j<k then bp c (f i j)else f r j
def Bb(f:Nat->Nat->UInt8)(i:Nat)(c:UInt8)(k:Nat):(λr j=>if r=i/\j=k then bp c (f i k)else iW f i c k r j)=iW f i c (k+1):=by
 funext r j;unfold iW;by_cases d:r=i
 ·by_cases e:j=k;·subst d e;simp
  ·by_cases h:j<k;·simp[d,e,h,show j<k+1 by omega]
   ·simp[d,e,h,show ¬j<k+1 by omega]
 ·simp[d]
def Ba(f:Nat->Nat->UInt8)(i:Nat)(c:UInt8):iW f i c 0=f:=by
 funext r j;simp[iW]
def Io(n:Nat)(f:Nat->Nat->UInt8)(i:Nat)(c:UInt8):aW n (iW f i c n) (n*n)=aW n (jr f i c) (n*n):=by
 refine tG n _ _ _ λt d=>?_;have m:0<n:=by rcases kJ n with e | e;(subst e;simp at d);exact e
 have:=jB t m;unfold iW jr;by_cases h:t / n=i;·rw[an ⟨h,this⟩,an h]
 ·rw[ae (λe=>h e.1),ae h]
def AZ(B o n i g m base:Nat)(c:UInt8)(f:Nat->Nat->UInt8)(w:World)(D:iS w B o n g m)(p:Ow w base eB (.slice (some ⟨g,0,none⟩) (n*n) m) (aW n f (n*n)))(F:i<n)(X:n<=255):Calls prog 317 #[.pointer (some ⟨B,o,none⟩),N i,.int .u8 (c.toNat:Int)] w λe w'=>e=.returned (.tuple #[])/\Ow w' base eB (.slice (some ⟨g,0,none⟩) (n*n) m) (aW n (jr f i c) (n*n))/\ag (λk=>k=g) w w':=by
 have a1:=(p.lt g rfl).2;have Y:=ad (EQ c.toNat c.toNat_lt);have Z:=ad (λW (D:iS W B o n g m) (p:Ow W base eB (.slice (some ⟨g,0,none⟩) (n*n) m) (aW n f (n*n)))=>n7 B o n i g m base _ W D p (eg _ _ _) F X);go_in;go_wp2_with fail;refine(Y.out _).mono ?_;rintro e d ⟨rfl,z⟩;have J:(dp c.toNat).size=256:=by simp[dp]
 have aa:(dp c.toNat).all (·.oneCell')=true:=by unfold dp;rw[dQ,n6];intro u hu;obtain⟨_,_,rfl⟩:=jE.1 hu;rfl
 have ac:(prog.info? 322).map (·.size)=some (dp c.toNat).size:=by rw[J];kernel_rfl
 have K:(d.alloc (.cells zeroCells322 322)).heap[d.heap.size]?=some (.cells zeroCells322 322 (0,0)):=aD _ _ _ rfl;have ah:(zeroCells322).size=(dp c.toNat).size:=by rw[J];kernel_rfl
 have ai:=bY _ d.heap.size zeroCells322 (dp c.toNat) _ _ K
 have G:Fr w ((d.alloc (.cells zeroCells322 322)).setRow d.heap.size (dp c.toNat)):=
  ag.below (z.alloc _) (bh _ _ _) (by simp;have:=z.size;omega) (λk L=>by rw[L];exact z.size)
 generalize aj:(d.alloc (.cells zeroCells322 322)).setRow d.heap.size (dp c.toNat)=w2 at *;have a3:=z.size;go_wp2_with (refine bB rfl 322 (.tmp 6) (.tmp 11) rfl d.heap.size (dp c.toNat) rfl rfl 322 zeroCells322 K ac ah aa ?_;rw[aj]);refine(Z.out _ (D.fr G) (p.fr G)).mono ?_;rintro e w3 ⟨rfl,M⟩;have O:=G.trans M;have ak:=M.heap ai;have al:=p.fr O;generalize d.heap.size=r at *;generalize a5:m-i*n=cp;go_wp2;go_loopw [17] (λI wr=>∃k:Nat,k<=n/\I=N k/\Ow wr base eB (.slice (some ⟨g,0,none⟩) (n*n) m) (aW n (iW f i c k) (n*n))/\wr.heap[r]?=some (.cells (dp c.toNat) 322 (0,0))/\ag (λk=>k=g) w wr) (λI _=>n-(intOf I).toNat);·exact⟨0,ax _,rfl,by rw[Ba];exact al,ak,O.chg _⟩
 ·
  obtain⟨k,L,rfl,q,Q,R⟩:=hrel;by_cases U:k<n
  ·obtain⟨e1,z1⟩:=rC q i k F U;have ap:iW f i c k i k=f i k:=(by unfold iW;rw[ae ω]);rw[ap]at e1;have V:=q.set Fk.u8 rfl (i*n+k) (by rw[eg];have:=cY n F;rw[ik]at this;omega) (bp c (f i k)) (B8 (aO c.toNat (f i k).toNat)) (by show Value.int .u8 _=_;rw[ju]);rw[Jo n _ _ i k U,Bb]at V;have av:=(f i k).toNat_lt;generalize (f i k).toNat=x at *;have e3:wr.cell? ⟨r,x,none⟩=some (B8 (aO c.toNat x)):=(by rw[aG Q];exact Bl c.toNat x av);have az:g≠r:=(by intro e;omega);go_wp2;go_roundw;·exact⟨k+1,ω,γ,V,(ay wr ⟨g,i*n+k,none⟩ _).heap Q (λe=>az e.symm),R.trans (ay wr ⟨g,i*n+k,none⟩ _) λ_ _ h=>h⟩
   ·exact μ
  ·have a0:k=n:=ω;rw[a0]at q ⊢;rw[Io]at q;go_wp2;go_end0;exact⟨rfl,q,R⟩
def zS(B o n i k g d base:Nat)(c:UInt8)(f:Nat->Nat->UInt8)(w:World)(D:iS w B o n g d)(m:Ow w base eB (.slice (some ⟨g,0,none⟩) (n*n) d) (aW n f (n*n)))(F:i<n)(I:k<n)(M:n<=255):Calls prog 318 #[.pointer (some ⟨B,o,none⟩),N i,.int .u8 (c.toNat:Int),N k] w λe w'=>e=.returned (.tuple #[])/\Ow w' base eB (.slice (some ⟨g,0,none⟩) (n*n) d) (aW n (i9 f i (λj=>f i j ^^^ bp c (f k j))) (n*n))/\ag (λk=>k=g) w w':=by
 have O:=eg n f (n*n);have Z:i*n+n<=n*n:=by have:=cY n F;rw[ik]at this;exact this
 have Q:=ad (λW l (D:iS W B o n g d) (m:Ow W base eB (.slice (some ⟨g,0,none⟩) (n*n) d) l) (J:l.length=n*n)=>n7 B o n i g d base l W D m J F M);have RK:=ad (λW l (D:iS W B o n g d) (m:Ow W base eB (.slice (some ⟨g,0,none⟩) (n*n) d) l) (J:l.length=n*n)=>n7 B o n k g d base l W D m J I M);have S:=λi (F:i<n) (W:World) (p:Fr w W)=>(tq (E:=eB) (t:=22) rfl sJ (m.fr p) (i*n) ((i+1)*n) (by rw[ik];omega) (by rw[O];exact cY n F)).2;have SI:=ad (λW p=>by have:=S i F W p;rw[rD n f n i F,show(i+1)*n-i*n=n by rw[ik];omega]at this;exact this);have SK:=ad (λW p=>by have:=S k I W p;rw[rD n f n k I,show(k+1)*n-k*n=n by rw[ik];omega]at this;exact this);have ac:=iL n f i;have ah:=iL n f k;have R:=ad (λW p=>F8 _ _ (cw n f i) (cw n f k) c.toNat c.toNat_lt W (SI.out W p) (SK.out W p) (by rw[ac,ah]) ω);rw[O3]at R;have P1:Hid ((aW n f (n*n)).take (i*n)++((List.range n).map (λj=>f i j ^^^ bp c (f k j))++(aW n f (n*n)).drop (i*n+n))=aW n (i9 f i (λj=>f i j ^^^ bp c (f k j))) (n*n)):=wL n f n i F _;have aj:((List.range n).map (λj=>f i j ^^^ bp c (f k j))).length=n:=σ
 have G:=ad O;generalize aW n f (n*n)=z,(List.range n).map (λj=>f i j ^^^ bp c (f k j))=q at *;have HI:=ad Z;go_in;go_wp2_with fail;refine(Q.out _ _ D m G.out).mono ?_;rintro e w1 ⟨rfl,K⟩;go_wp2_with fail;refine(RK.out _ _ (D.fr K) (m.fr K) G.out).mono ?_;rintro e w3 ⟨rfl,al⟩;have U:=K.trans al;go_wp2_with fail;refine(R.out _ U).mono ?_;rintro e w4 ⟨v4,rfl,am,ap⟩;have L:=U.trans ap;go_wp2_with fail;refine(Q.out _ _ (D.fr L) (m.fr L) G.out).mono ?_;rintro e w5 ⟨rfl,V⟩;have X:=L.trans V;have av:0<n:=ω
 go_wp2_with (refine vA rfl rfl (.tmp 23) (.tmp 24) 22 22 rfl sJ g (i*n) n _ d _ _ z q rfl rfl (m.fr X) (am.fr V).see aj av (by rw[G.out];exact HI.out) ?_);intro w6 Y az;rw[P1.out]at Y;go_wp2;go_end0;exact⟨rfl,Y,(X.chg _).trans az λ_ _ h=>h⟩
def uJ(R C:Nat)(a:Option Addr)(d:Nat)(m:R<=255)(hC:C<=255)(w:World):Calls prog 283 #[.agg #[N R,N C,.slice a (R*C) d]] w λe w'=>e=.returned (.bool true)/\Fr w w':=by
 have p:=ad (ro R m);have q:=ad (ro C hC);have G:=oz R C 255 255 m hC ω;generalize R*C=L at *;have h:(w.alloc (.cells #[N R,N C,.slice a L d] 165)).heap[w.heap.size]?=some (.cells #[N R,N C,.slice a L d] 165 (0,0)):=aD _ _ _ rfl;have z:Fr w (w.alloc (.cells #[N R,N C,.slice a L d] 165)):=(Fr.refl w).alloc _;generalize o:w.alloc (.cells #[N R,N C,.slice a L d] 165)=W at *;have I:=af h 0 rfl;have J:=af h 1 rfl;have c2:=af h 2 rfl;have D:=ad o;clear o h;go_in;go_upto_region 1 with fail;rw[D.out];go_wp2_with fail;refine(p.out _).mono ?_;rintro e F ⟨rfl,rfl⟩;go_wp2_with fail;refine(q.out _).mono ?_;rintro e F ⟨rfl,rfl⟩;go_wp2;go_ret;exact⟨rfl,z⟩
structure gj (w:World) (B base n g1 cap1 g2 cap2:Nat) (A:Nat->Nat->UInt8):Prop where
 h:w.heap[B]?=some (.cells #[N n,N n,.slice (some ⟨g1,0,none⟩) (n*n) cap1,N n,N n,.slice (some ⟨g2,0,none⟩) (n*n) cap2] 376 (0,0))
 o1:Ow w base eB (.slice (some ⟨g1,0,none⟩) (n*n) cap1) (aW n A (n*n))
 o2:Ow w base eB (.slice (some ⟨g2,0,none⟩) (n*n) cap2) (aW n (λr j=>A r (n+j)) (n*n))
 ne:g1≠g2
section
variable {w w':World} {B base n g1 cap1 g2 cap2:Nat} {A A':Nat->Nat->UInt8}
theorem gj.n1(h:gj w B base n g1 cap1 g2 cap2 A):B≠g1:=λe=>h.o1.ne_cells h.h δ (by rw[e];rfl)
theorem gj.n2(h:gj w B base n g1 cap1 g2 cap2 A):B≠g2:=λe=>h.o2.ne_cells h.h δ (by rw[e];rfl)
theorem gj.w1(h:gj w B base n g1 cap1 g2 cap2 A):iS w B 0 n g1 cap1:=⟨by rw[aG h.h];rfl,by rw[aG h.h];rfl,by rw[aG h.h];rfl⟩
theorem gj.w2(h:gj w B base n g1 cap1 g2 cap2 A):iS w B 3 n g2 cap2:=⟨by rw[aG h.h];rfl,by rw[aG h.h];rfl,by rw[aG h.h];rfl⟩
theorem gj.fr(h:gj w B base n g1 cap1 g2 cap2 A)(d:Fr w w'):gj w' B base n g1 cap1 g2 cap2 A:=⟨d.heap h.h,h.o1.fr d,h.o2.fr d,h.ne⟩
theorem gj.both{d:World}(h:gj w B base n g1 cap1 g2 cap2 A)(m:ag (λk=>k=g1) w d)(p:Ow d base eB (.slice (some ⟨g1,0,none⟩) (n*n) cap1) (aW n A' (n*n)))(f:ag (λk=>k=g2) d w')(q:Ow w' base eB (.slice (some ⟨g2,0,none⟩) (n*n) cap2) (aW n (λr j=>A' r (n+j)) (n*n))):gj w' B base n g1 cap1 g2 cap2 A'/\ag (λk=>k=g1\/k=g2) w w':=
 ⟨⟨f.heap (m.heap h.h h.n1) h.n2,p.chg f (λk o e=>by simp[Value.ownBlock]at o;exact h.ne (o.trans e)),q,h.ne⟩,(m.mono λ_ _ h=>.inl h).trans f λ_ _ h=>.inr h⟩
theorem gj.o2'{d:World}(h:gj w B base n g1 cap1 g2 cap2 A)(m:ag (λk=>k=g1) w d):Ow d base eB (.slice (some ⟨g2,0,none⟩) (n*n) cap2) (aW n (λr j=>A r (n+j)) (n*n)):=
 h.o2.chg m (λk f e=>by simp[Value.ownBlock]at f;exact h.ne (e.symm.trans f.symm))
theorem gj.congr(h:gj w B base n g1 cap1 g2 cap2 A)(d:∀r j,A r j=A' r j):gj w B base n g1 cap1 g2 cap2 A':=by
 have:A=A':=by funext r j;exact d r j
 rw[<- this];exact h
end
def D6(S:Nat->Nat->UInt8)(i:Nat):cP S i 0=S:=by funext r j;simp[cP]
def D8(S:Nat->Nat->UInt8)(i k:Nat)(h:k=i\/S k i=0):cP S i (k+1)=cP S i k:=by
 funext r j;unfold cP;by_cases f:r=k
 ·subst f;rcases h with h | h;·rw[ae (λe=>e.2 h),ae (λe=>e.2 h)]
  ·rw[h,pJ,pA];simp
 ·by_cases d:r<k/\r≠i;·rw[an ⟨ω,d.2⟩,an d]
  ·rw[ae (λe=>d ⟨ω,e.2⟩),ae d]
def D7(S:Nat->Nat->UInt8)(i k:Nat)(h:k≠i):i9 (cP S i k) k (λj=>cP S i k k j ^^^ bp (S k i) (cP S i k i j))=cP S i (k+1):=by
 funext r j;unfold i9;by_cases f:r=k;·subst f;rw[an rfl];show cP S i r r j ^^^ bp (S r i) (cP S i r i j)=_;unfold cP;rw[ae ω,ae σ,an ⟨ω,h⟩]
 ·rw[ae f];unfold cP;by_cases d:r<k/\r≠i;·rw[an d,an ⟨ω,d.2⟩]
  ·rw[ae d,ae (λe=>d ⟨ω,e.2⟩)]
def CZ(x:UInt8):B8 (kZ x.toNat)=.int .u8 ((ft x).toNat:Int):=by
 have h:=xR x.toNat x.toNat_lt;have e:(ft x).toNat=kZ x.toNat:=by unfold ft;exact mO _ h
 rw[e]
def Nj(B base n i g1 cap1 g2 cap2:Nat)(A:Nat->Nat->UInt8)(w:World)(hP:gj w B base n g1 cap1 g2 cap2 A)(o:i<n)(I:n<=255)(hp:mr A n i):Calls prog 288 #[.pointer (some ⟨B,0,none⟩),N i,N i] w λe w'=>e=.returned (.bool true)/\gj w' B base n g1 cap1 g2 cap2 (nE A n i)/\ag (λk=>k=g1\/k=g2) w w':=by
 obtain⟨cb,ac,aC,ba⟩:=hp;have HD:Hid (nE A n i=cP (iV A n i) i n):=rfl;have HS:Hid (iV A n i=jr (et A i (iA A n i)) i (ft (A (iA A n i) i))):=rfl;generalize nE A n i=A9,iA A n i=p at *;have c6:(i:Int)<n:=ω
 have c8:(0:Int)<=i:=ω
 go_in;go_wp2;go_loopw [7] (λqv wr=>∃q:Nat,i<=q/\q<=p/\qv=N q/\Fr w wr) (λqv _=>p-(intOf qv).toNat);·exact⟨i,au _,cb,rfl,Fr.refl w⟩
 ·
  obtain⟨q,ch,c9,rfl,m⟩:=hrel;have D:=hP.fr m;have K:=ad (λW (m:Fr wr W)=>n7 B 0 n q g1 cap1 base _ W ((D.w1).fr m) (D.o1.fr m) (eg _ _ _) ω I);have k0:wr.cell? ⟨B,0,none⟩=some (N n):=D.w1.c0;have cB:(q:Int)<n:=ω;by_cases ci:q<p
  ·have hz:(A q i).toNat=0:=(by rw[ba q ch ci];rfl);have F:=ad (λW (m:Fr wr W)=>by have:=(rC (D.o1.fr m) q i ω o).1;rw[hz]at this;exact this);generalize bc:cap1-q*n=cp at *;generalize bd:q*n=pn at *;go_wp2_with fail;refine(K.out _ (Fr.refl _)).mono ?_;rintro e w1 ⟨rfl,J⟩;have c1:=F.out w1 J;go_wp2;go_roundw;·exact⟨q+1,ω,ω,γ,m.trans J⟩
   ·exact μ
  ·obtain rfl:p=q:=ω;have hz:¬((A p i).toNat:Int)=0:=λe=>aC (fO.1 (by rw[uS];omega));have ck:¬(p:Int)=n:=ω;have F:=ad (λW (m:Fr wr W)=>(rC (D.o1.fr m) p i ac o).1);have bf:=ad (λW (m:Fr wr W)=>Ax B 0 n i p g1 cap1 base A W ((D.w1).fr m) (D.o1.fr m) D.n1 o ac I);clear hP;generalize bc:cap1-p*n=cp at *;generalize bd:p*n=pn at *;go_wp2_with fail;refine(K.out _ (Fr.refl _)).mono ?_;rintro e w1 ⟨rfl,J⟩;have c1:=F.out w1 J;have k1:=J.cell k0;clear F K k0;go_wp2_with fail;refine(bf.out _ J).mono ?_;rintro e w2 ⟨rfl,bk,V⟩;have O:=D.fr J;have bl:=ad (Ax B 3 n i p g2 cap2 base (λr j=>A r (n+j)) w2 (O.w2.chg V O.n1) (O.o2' V) O.n2 o ac I);clear c1 k1 bf hz ck;go_wp2_with fail;apply bl.z;rintro e X ⟨rfl,bm,bq⟩;obtain⟨L,bs⟩:=O.both (A':=et A i p) V bk bq bm;have bt:ag (λk=>k=g1\/k=g2) wr X:=(J.chg _).trans bs λ_ _ h=>h;have bu:et A i p i i=A p i:=(by unfold et;rw[an rfl]);clear bl bk V bm bq bs O D J;have bv:=ad (n7 B 0 n i g1 cap1 base _ X L.w1 L.o1 (eg _ _ _) o I);have am:=ad (λW (m:Fr X W)=>(rC (L.o1.fr m) i i o o).1);rw[bu]at am;have HI:=ad (Fs (A p i).toNat (A p i).toNat_lt);obtain⟨er,bx⟩:=tY (A p i).toNat;rw[bx,CZ]at HI;have az:=ad (λW (m:Fr X W)=>AZ B 0 n i g1 cap1 base (ft (A p i)) (et A i p) W (L.w1.fr m) (L.o1.fr m) o I);have a0:=ad (λW R (hP:gj W B base n g1 cap1 g2 cap2 (et A i p)) (G:ag (λk=>k=g1) W R)=>AZ B 3 n i g2 cap2 base (ft (A p i)) (λr j=>et A i p r (n+j)) R (hP.w2.chg G hP.n1) (hP.o2' G) o I);clear bx bu;rw[<- HS.out]at az;have b0:Hid (jr (λr j=>et A i p r (n+j)) i (ft (A p i))=λr j=>iV A n i r (n+j)):=ad (by rw[HS.out];rfl);rw[b0.out]at a0;generalize (A p i).toNat=ap,et A i p=A2,iV A n i=S,ft (A p i)=cc at *;generalize cn:cap1-i*n=cF at *;generalize cq:i*n=cL at *;clear HS b0 aC ba;go_wp2_with fail;apply bv.z;rintro e w4 ⟨rfl,Q⟩;have c4:=am.out w4 Q;go_wp2_with fail;refine(HI.out _).mono ?_;rintro e w5 ⟨rfl,rfl⟩;go_wp2_with fail;refine(az.out _ Q).mono ?_;rintro e w5 ⟨rfl,b2,a1⟩;have b3:=ad (a0.out w4 w5 (L.fr Q) a1);clear az a0 bv am HI c4;go_wp2_with fail;apply b3.z;rintro e w6 ⟨rfl,b4,U⟩;obtain⟨a3,b5⟩:=(L.fr Q).both (A':=S) a1 b2 U b4;have b6:ag (λk=>k=g1\/k=g2) wr w6:=(bt.trans (Q.chg _) λ_ _ h=>h).trans b5 λ_ _ h=>h;clear b3 b2 a1 b4 U L Q b5 bt cn cq bc bd;have k6:w6.cell? ⟨B,0,none⟩=some (N n):=a3.w1.c0;have U:ag (λk=>k=g1\/k=g2) w w6:=(m.chg _).trans b6 λ_ _ h=>h;clear b6 m;go_wp2;go_loopw [84] (λkv wr=>∃k:Nat,k<=n/\kv=N k/\gj wr B base n g1 cap1 g2 cap2 (cP S i k)/\ag (λk=>k=g1\/k=g2) w wr) (λkv _=>n-(intOf kv).toNat);·exact⟨0,ax _,rfl,a3.congr λr j=>by rw[D6],U⟩
   ·
    clear a3 U k6;obtain⟨k,hk,rfl,hP,G⟩:=hrel;by_cases Y:k<n
    ·have cR:(k:Int)<n:=ω;have K:=ad (n7 B 0 n k g1 cap1 base _ wr hP.w1 hP.o1 (eg _ _ _) Y I);have a5:cP S i k k i=S k i:=(by unfold cP;rw[ae ω]);have F:=ad (λW (m:Fr wr W)=>(rC (hP.o1.fr m) k i Y o).1);rw[a5]at F;by_cases M:k=i\/S k i=0
     ·have b7:=hP.congr (λr j=>(congrFun (congrFun (D8 S i k M) r) j).symm);have a6:(k:Int)=i\/((S k i).toNat:Int)=0:=by
       rcases M with h | h;·exact .inl ω
       ·exact .inr (by rw[h];rfl)
      clear M a5 hP;generalize k*n=kn,cap1-k*n=cp,(S k i).toNat=d at *;go_wp2_with fail;apply K.z;rintro e Z ⟨rfl,z⟩;have c7:=F.out Z z;clear K F;by_cases ct:(k:Int)=i
      ·go_wp2;go_roundw;·exact⟨k+1,ω,γ,b7.fr z,G.trans (z.chg _) λ_ _ h=>h⟩
       ·exact μ
      ·have bC:(d:Int)=0:=(by rcases a6 with h | h;exact absurd h ct;exact h);clear a6;go_wp2;go_roundw;·exact⟨k+1,ω,γ,b7.fr z,G.trans (z.chg _) λ_ _ h=>h⟩
       ·exact μ
     ·have a6:¬(k:Int)=i:=λe=>M (.inl ω);have a7:k≠i:=λe=>M (.inl e);have bC:¬((S k i).toNat:Int)=0:=λe=>M (.inr (fO.1 (by rw[uS];omega)));have aa:=ad (λW (m:Fr wr W)=>zS B 0 n k i g1 cap1 base (S k i) (cP S i k) W (hP.w1.fr m) (hP.o1.fr m) Y o I);rw[D7 S i k a7]at aa;have ab:=ad (λW R (hP:gj W B base n g1 cap1 g2 cap2 (cP S i k)) (G:ag (λk=>k=g1) W R)=>zS B 3 n k i g2 cap2 base (S k i) (λr j=>cP S i k r (n+j)) R (hP.w2.chg G hP.n1) (hP.o2' G) Y o I);have bG:Hid (i9 (λr j=>cP S i k r (n+j)) k (λj=>cP S i k k (n+j) ^^^ bp (S k i) (cP S i k i (n+j)))=λr j=>cP S i (k+1) r (n+j)):=(by show _=_;rw[<- D7 S i k a7];rfl);rw[bG.out]at ab;clear M a7 a5 bG;generalize (S k i).toNat=d at *;have cu:¬d=0:=λe=>bC ω;have cT:((d:Int) != 0)=true:=(by rw[bne,show((d:Int) == 0)=false from by simpa using cu];rfl);obtain⟨E2,a8⟩:∃E,E=cP S i (k+1):=⟨_,rfl⟩;rw[<- a8]at aa ab;have HE:=ad a8;clear a8;generalize k*n=kn,cap1-k*n=cp,cP S i k=E1 at *;go_wp2_with fail;apply K.z;rintro e Z ⟨rfl,z⟩;have c7:=F.out Z z;clear K F;go_wp2_with fail;refine(aa.out _ z).mono ?_;rintro e w8 ⟨rfl,bL,a9⟩;have bR:=ad (ab.out Z w8 (hP.fr z) a9);clear aa ab c7;go_wp2_with fail;apply bR.z;rintro e w9 ⟨rfl,bS,bT⟩;obtain⟨c3,c5⟩:=(hP.fr z).both (A':=E2) a9 bL bT bS;clear bR bL a9 bS bT;go_wp2;go_roundw;·exact⟨k+1,ω,γ,HE.out ▸ c3,(G.trans (z.chg _) λ_ _ h=>h).trans c5 λ_ _ h=>h⟩
      ·exact μ
    ·obtain rfl:n=k:=ω;rw[<- HD.out]at hP;have dc:¬((n:Int)<n):=ω;go_wp2;go_ret;exact⟨rfl,hP,G⟩
def Oi(M:U0)(n:Nat)(d:M.length=n*n):aW n (dy (fI M n) n) (n*n)=M:=by
 rw[<- BF M n n d];conv=>lhs;rw[BF M n n d]
 refine tG n _ _ _ λt f=>?_;have h:0<n:=by rcases kJ n with e | e;(subst e;simp at f);exact e
 unfold dy;rw[an (jB t h)]
def Og(M:U0)(n:Nat):aW n (λr j=>dy (fI M n) n r (n+j)) (n*n)=eF n:=by
 unfold eF;refine tG n _ _ _ λt d=>?_;unfold dy ew;rw[ae ω,show n+t%n-n=t%n by omega];by_cases e:t / n=t%n;·rw[an e,an e.symm]
 ·rw[ae e,ae (λh=>e h.symm)]
def FZ(n:Nat)(M:U0)(v:Value)(w:World)(F:ao w eB v M)(d:M.length=n*n)(G:1<=n)(I:n<=255):Calls prog 287 #[.agg #[N n,N n,v]] w λe w'=>∃B g1 cap1 g2 cap2,e=.returned (.pointer (some ⟨B,0,none⟩))/\gj w' B w.heap.size n g1 cap1 g2 cap2 (dy (fI M n) n)/\Fr w w'/\w.heap.size<=B:=by
 have bb:n*n<=255*255:=bo I I;have bc:1*1<=n*n:=bo G G;have HC:=ad (λW (h:Fr w W)=>jY v M W (F.fr h) ω);have HM:=ad (λW=>C1 n G I W);have HL:=ad (Oi M n d);have HR:=ad (Og M n);have p:(eF n).length=n*n:=eg _ _ _;have ap:=ad p;have av:M≠[]:=by intro e;subst e;simp at d;omega
 have az:eF n≠[]:=by intro e;rw[e]at p;simp at p;omega
 obtain⟨a,J,Z,_⟩:=F.shape;rw[d]at Z;subst Z;have aa:=ad d;clear d;clear p;generalize dy (fI M n) n=A at *;have ab:(w.alloc (.cells #[N n,N n,.slice a (n*n) J] 165)).heap[w.heap.size]?=some (.cells #[N n,N n,.slice a (n*n) J] 165 (0,0)):=aD _ _ _ rfl;have K:Fr w (w.alloc (.cells #[N n,N n,.slice a (n*n) J] 165)):=(Fr.refl w).alloc _;go_in;go_wp2_with fail;refine(HC.out _ K).mono ?_;rintro e L ⟨v1,rfl,q,O⟩;obtain⟨g1,cap1,rfl,a0,be,_,_⟩:=q.atHead av;have z:=O.heap ab;rw[aa.out]at q;have Q:=K.trans O
 have bf : g1 ≠ w.heap.size := by have : w.heap.size + 1 ≤ g1 := by simpa using a0
                                  omega
 have ac:=ay L ⟨w.heap.size,2,none⟩ (.slice (some ⟨g1,0,none⟩) (n*n) cap1);have R:=aI z 2 (.slice (some ⟨g1,0,none⟩) (n*n) cap1);have a1:=aB z 2;have a2:=af z 2 rfl;have U:=q.chg ac λk hk e=>by simp[Value.ownBlock]at hk;have e:k=w.heap.size:=e;omega
 have ah:Fr w (L.setCell ⟨w.heap.size,2,none⟩ (.slice (some ⟨g1,0,none⟩) (n*n) cap1)):=eP Q (au _) Q.size;rw[aa.out];go_upto_region 2 with fail;have a4:=U.rebase (b:=w.heap.size) σ;have bk:=(U.lt g1 rfl).2;generalize L.setCell ⟨w.heap.size,2,none⟩ (.slice (some ⟨g1,0,none⟩) (n*n) cap1)=m at *;have c0:=af R 0 rfl;have c1:=af R 1 rfl;have c2:=af R 2 rfl;generalize V:w.heap.size=b at *;clear a2 ab K O q z ac a1 U F Q
 go_region_held3 (λw' => w'.cell? ⟨b, 0, none⟩ = some (N n) ∧ w'.cell? ⟨b, 1, none⟩ = some (N n) ∧ w'.cell? ⟨b, 2, none⟩ = some (.slice (some ⟨g1, 0, none⟩) (n * n) cap1))
  (first | go_keep)
  ((first
    | (go_at_call 171; refine (HM.out _).mono ?_; rintro e o ⟨v3, rfl, X, D⟩; rw[Df] at X; obtain ⟨g2, cap2, ai, a7, bl, _, _⟩ := X.atHead az; rw[ap.out] at ai; subst ai; unfold oU; have d0 := D.cell c0; have d1 := D.cell c1; have d2 := D.cell c2)))
 have Y:Fr m o:=(Fr.refl m).drew.trans D;have a8:=ah.trans Y;have a9:=(a4.fr Y).fr ((Fr.refl o).alloc (.cells #[N n,N n,.slice (some ⟨g1,0,none⟩) (n*n) cap1,N n,N n,.slice (some ⟨g2,0,none⟩) (n*n) cap2] 376));have aC:=X.fr ((Fr.refl o).alloc (.cells #[N n,N n,.slice (some ⟨g1,0,none⟩) (n*n) cap1,N n,N n,.slice (some ⟨g2,0,none⟩) (n*n) cap2] 376));have ba:b<=m.heap.size:=by rw[<- V];exact ah.size
 have bt:m.heap.size<=o.heap.size:=Y.size;have bu:m.heap.size<=g2:=a7;go_wp2;go_ret;refine⟨o.heap.size,g1,cap1,g2,cap2,rfl,⟨aD _ _ _ rfl,?_,?_,ω⟩,a8.alloc _,ω⟩;·rw[HL.out,V];exact a9
 ·rw[HR.out,V];exact aC.rebase ba
def Q6(n:Nat)(M:U0)(v:Value)(w:World)(Z:ao w eB v M)(hM:M.length=n*n)(h1:1<=n)(G:n<=255)(hG:zn M n):Calls prog 243 #[.agg #[N n,N n,v]] w λe w'=>∃u,e=.returned (.tuple #[.agg #[N n,N n,u],.int .i64 0])/\Ow w' w.heap.size eB u (jO M n)/\Fr w w':=by
 obtain⟨a,m,ac,_⟩:=Z.shape;rw[hM]at ac;subst ac;have HM:=ad (uJ n n a m G G);have L:=ad (λW (h:Fr w W)=>FZ n M _ W (Z.fr h) hM h1 G);have HI:Hid (jO M n=aW n (λr j=>gt (dy (fI M n) n) n n r (n+j)) (n*n)):=rfl;have aj:Hid (∀i,i<n->mr (gt (dy (fI M n) n) n i) n i):=hG;have HS:Hid (∀i,nE (gt (dy (fI M n) n) n i) n i=gt (dy (fI M n) n) n (i+1)):=λ_=>rfl;have HZ:Hid (gt (dy (fI M n) n) n 0=dy (fI M n) n):=rfl;rw[<- HZ.out]at L;generalize jO M n=IV,gt (dy (fI M n) n) n=St at *;clear HZ hG;generalize a5:n*n=d at *;have I:((w.alloc (.cells #[N n,N n,.slice a d m] 165)).alloc (.cells #[.int .i64 0,.int .i64 0,.slice none 0 0] 165)).heap[w.heap.size]?=some (.cells #[N n,N n,.slice a d m] 165 (0,0)):=by rw[gn _ _ _ σ,aD _ _ _ rfl]
 have ap:((w.alloc (.cells #[N n,N n,.slice a d m] 165)).alloc (.cells #[.int .i64 0,.int .i64 0,.slice none 0 0] 165)).heap[w.heap.size+1]?=some (.cells #[.int .i64 0,.int .i64 0,.slice none 0 0] 165 (0,0)):=aD _ _ _ σ;have av:Fr w ((w.alloc (.cells #[N n,N n,.slice a d m] 165)).alloc (.cells #[.int .i64 0,.int .i64 0,.slice none 0 0] 165)):=((Fr.refl w).alloc _).alloc _;have be:((w.alloc (.cells #[N n,N n,.slice a d m] 165)).alloc (.cells #[.int .i64 0,.int .i64 0,.slice none 0 0] 165)).heap.size=w.heap.size+2:=σ
 go_in;go_upto_region 1 with fail;generalize (w.alloc (.cells #[N n,N n,.slice a d m] 165)).alloc (.cells #[.int .i64 0,.int .i64 0,.slice none 0 0] 165)=w0 at *;have z:=af I 0 rfl;have O:=af I 1 rfl;have J:=af I 2 rfl;generalize hb:w.heap.size=b at *;go_wp2_with fail;refine(HM.out _).mono ?_;rintro e Q ⟨rfl,o⟩;have c0:=o.cell z;have c1:=o.cell O;have c2:=o.cell J;have R:=av.trans o;have a0:=o.heap ap;clear z O J av I ap;go_wp2_with fail;refine(L.out _ R).mono ?_;rintro e w2 ⟨B,g1,cap1,g2,cap2,rfl,hP,K,hB⟩;have z:=K.cell c0;have a1:=K.heap a0;have a2:=R.trans K;have bq:b+2<=Q.heap.size:=by have:=o.size;omega
 clear c0 c1 c2 a0 o R HM L K;go_wp2;go_loopw [21] (λU wr=>∃i:Nat,i<=n/\U=N i/\gj wr B Q.heap.size n g1 cap1 g2 cap2 (St i)/\wr.heap[b+1]?=some (.cells #[.int .i64 0,.int .i64 0,.slice none 0 0] 165 (0,0))/\Fr w wr) (λU _=>n-(intOf U).toNat);·exact⟨0,ax _,rfl,hP,a1,a2⟩
 ·
  clear hP a1 a2 z;obtain⟨i,hi,rfl,hP,p,D⟩:=hrel;by_cases a3:i<n
  ·have bt:(i:Int)<n:=ω;have V:=ad (Nj B Q.heap.size n i g1 cap1 g2 cap2 (St i) wr hP a3 G (aj.out i a3));rw[HS.out]at V;go_wp2_with fail;apply V.z;rintro e w3 ⟨rfl,a8,X⟩;have bu:=(hP.o1.lt g1 rfl).1;have bv:=(hP.o2.lt g2 rfl).1;have a9:=X.heap p (λe=>by omega);have aC:Fr w w3:=ag.below D X D.size (λk e=>by omega);clear hP p D X V;go_wp2;go_roundw;·exact⟨i+1,ω,γ,a8,a9,aC⟩
   ·exact μ
  ·obtain rfl:n=i:=ω;have bx:¬((n:Int)<n):=ω;have z:=hP.w2.c0;have O:=hP.w2.c1;have J:=hP.w2.c2;have F:=hP.o2;rw[a5]at J F;rw[<- HI.out]at F;have ba:(prog.info? 165).map (·.size)=some 3:=(by kernel_rfl);have bb:(#[N n,N n,.slice (some ⟨g2,0,none⟩) d cap2]:Array Value).all (·.oneCell')=true:=(by rw[dQ];rfl);have q0:=fk wr (b+1) 0 _ #[N n,N n,.slice (some ⟨g2,0,none⟩) d cap2] _ _ p;have q1:=fk wr (b+1) 1 _ #[N n,N n,.slice (some ⟨g2,0,none⟩) d cap2] _ _ p;have q2:=fk wr (b+1) 2 _ #[N n,N n,.slice (some ⟨g2,0,none⟩) d cap2] _ _ p;have bc:Ow (wr.setRow (b+1) #[N n,N n,.slice (some ⟨g2,0,none⟩) d cap2]) b eB (.slice (some ⟨g2,0,none⟩) d cap2) IV:=(F.chg (bh wr (b+1) _) λq Y=>by have:=(F.lt q Y).1;show ¬q=b+1;omega).rebase ω;have bd:Fr w (wr.setRow (b+1) #[N n,N n,.slice (some ⟨g2,0,none⟩) d cap2]):=ag.below D (bh wr (b+1) _) D.size (λq Y=>by rw[Y];omega);clear hP HI HS aj F;go_wp2_with (refine bB rfl 165 (.tmp 2) (.tmp 35) rfl (b+1) #[N n,N n,.slice (some ⟨g2,0,none⟩) d cap2] rfl rfl 165 _ p ba rfl bb ?_);exact aT (by simp[results,results243,go_sem, *]) rfl ⟨_,rfl,bc,bd⟩
def uG(R C:Nat)(a:Option Addr)(d:Nat)(h:R<=255)(hC:C<=255)(w:World):Calls prog 267 #[.agg #[N R,N C,.slice a (R*C) d]] w λe w'=>e=.returned (.bool true)/\Fr w w':=by
 have m:=oz R C 255 255 h hC ω;generalize R*C=L at *;have o:(0:Int)<=R:=ω
 have p:(R:Int)<=255:=ω
 have q:(0:Int)<=C:=ω
 have z:(C:Int)<=255:=ω
 go_in;go_wp2;go_ret;exact⟨rfl,(Fr.refl w).alloc _⟩
def PO(n:Nat)(M:1<=n)(U:n<=255)(w:World):Calls prog 205 #[N n] w λe w'=>∃v,e=.returned (.tuple #[oU n v,.int .i64 0])/\Ow w' w.heap.size eB v (eF n)/\Fr w w':=by
 have bc:n*n<=255*255:=bo U U;have hw:=oz n n 255 255 U U ω;have ac:=ad (λt=>eg n ew t);have ah:Hid (∀t,aW n ew (t+1)=aW n ew t++[ew (t / n) (t%n)]):=λt=>by unfold aW;rw[jD,gq];rfl
 have HZ:Hid (aW n ew 0=[]):=rfl;have HA:Hid (eF n=aW n ew (n*n)):=rfl;have be:¬(255:Int)<n:=ω
 have bf:¬(n:Int)<0:=ω
 have aj:((w.alloc (.cells #[.int .i64 0,.int .i64 0,.slice none 0 0] 165)).alloc (.cells #[N n,N n,.slice none 0 0] 165)).heap[w.heap.size]?=some (.cells #[.int .i64 0,.int .i64 0,.slice none 0 0] 165 (0,0)):=by rw[gn _ _ _ σ,aD _ _ _ rfl]
 have ak:((w.alloc (.cells #[.int .i64 0,.int .i64 0,.slice none 0 0] 165)).alloc (.cells #[N n,N n,.slice none 0 0] 165)).heap[w.heap.size+1]?=some (.cells #[N n,N n,.slice none 0 0] 165 (0,0)):=aD _ _ _ σ;have al:Fr w ((w.alloc (.cells #[.int .i64 0,.int .i64 0,.slice none 0 0] 165)).alloc (.cells #[N n,N n,.slice none 0 0] 165)):=((Fr.refl w).alloc _).alloc _;have a2:((w.alloc (.cells #[.int .i64 0,.int .i64 0,.slice none 0 0] 165)).alloc (.cells #[N n,N n,.slice none 0 0] 165)).heap.size=w.heap.size+2:=σ
 generalize bk:n*n=D at *;go_in;go_upto_region 5 with fail;generalize (w.alloc (.cells #[.int .i64 0,.int .i64 0,.slice none 0 0] 165)).alloc (.cells #[N n,N n,.slice none 0 0] 165)=w0 at *;generalize V:w.heap.size=g at *;go_loopw [5] (λX wr=>∃(i:Nat) (d:Value),i<=D/\X=N i/\wr.heap[g]?=some (.cells #[.int .i64 0,.int .i64 0,.slice none 0 0] 165 (0,0))/\wr.heap[g+1]?=some (.cells #[N n,N n,d] 165 (0,0))/\Ow wr (g+2) eB d (aW n ew i)/\Fr w wr/\g+2<=wr.heap.size) (λX _=>D-(intOf X).toNat);·exact⟨0,_,ax _,rfl,aj,ak,by rw[HZ.out];exact Ow.nil,al,ω⟩
 ·
  clear aj ak al a2;obtain⟨i,d,hi,rfl,I,O,h,J,W⟩:=hrel;by_cases bq:i<D
  ·have bs:(i:Int)<D:=ω;have bt:(i:Int).tdiv n=((i / n:Nat):Int):=(by rw[pEQb ω];rfl);have bu:(i:Int).tmod n=((i%n:Nat):Int):=(by rw[vk ω];rfl);have bv:¬(n:Int)=0:=ω;have bx:IntKind.i64.wrap ((i / n:Nat):Int)=((i / n:Nat):Int):=dS _ (by have:=il i n;omega);have b0:IntKind.i64.wrap ((i%n:Nat):Int)=((i%n:Nat):Int):=dS _ (by have:=jB i M;omega);have K:=ad (ah.out i);have am:=ac.out i;have ap:Hid ((aW n ew i).length+1<=2147483648):=(by show _<=_;omega);by_cases L:i / n=i%n
   ·have Q:Hid (ew (i / n) (i%n)=1):=(by show _=_;unfold ew;rw[an L]);rw[Q.out]at K;have a3:((i / n:Nat):Int)=((i%n:Nat):Int):=(by rw[L]);obtain⟨P2,F⟩:∃q,q=aW n ew (i+1):=⟨_,rfl⟩;rw[<- F]at K;have Y:=ad F;clear F L Q am;generalize i%n=rn,i / n=qn at *;have e2:=af O 2 rfl;have G:∀q,d.ownBlock=some q->g+2<=q:=λq o=>(h.lt q o).1;go_wp2;go_quiet (fail);go_wp2_with (at_builtin;refine bA eB rfl (.tmp 32) (.tmp 34) 22 rfl sJ (g+2) rfl (h.fr ((Fr.refl wr).drewN _)) [1] _ _ _ rfl rfl rfl ap.out W ?_);intro v' w4 m;have p:=m.own;rw[<- K.out]at p;obtain⟨va,vc,Z⟩:=p.shape';subst Z;have aa:=h.fr ((Fr.refl wr).drewN 1);have k0:=m.chg'.heap (show _=_ from I) (λe=>by have:=G _ e;omega);have z:=m.chg'.heap (show _=_ from O) (λe=>by have:=G _ e;omega);have R:Fr w w4:=m.below (h.fr ((Fr.refl wr).drewN _)) (J.drewN _) (by rw[V];omega) (J.drewN _).size;have a7:g+2<=w4.heap.size:=ar W m.size;have e3:=af z 2 rfl;have e4:w4.frozen? ⟨g+1,2,none⟩=false:=aB z 2;clear m h aa;go_wp2;go_roundw;·exact⟨i+1,_,ω,γ,by rw[kh _ _ _ _ σ];exact k0,aI z 2 _,by rw[<- Y.out];exact p.chg (ay w4 ⟨g+1,2,none⟩ _) (λk M e=>(p.ne_cells z δ) (by rw[M,show k=g+1 from e])),ag.below R (ay w4 ⟨g+1,2,none⟩ _) R.size (λi e=>by have e:i=g+1:=e;rw[V];omega),by simp[World.setCell];omega⟩
    ·exact μ
   ·have Q:Hid (ew (i / n) (i%n)=0):=(by show _=_;unfold ew;rw[ae L]);rw[Q.out]at K;have a3:¬((i / n:Nat):Int)=((i%n:Nat):Int):=λe=>L ω;obtain⟨P2,F⟩:∃q,q=aW n ew (i+1):=⟨_,rfl⟩;rw[<- F]at K;have Y:=ad F;clear F L Q am;generalize i%n=rn,i / n=qn at *;have e2:=af O 2 rfl;have G:∀q,d.ownBlock=some q->g+2<=q:=λq o=>(h.lt q o).1;go_wp2;go_quiet (fail);go_wp2_with (at_builtin;refine bA eB rfl (.tmp 32) (.tmp 34) 22 rfl sJ (g+2) rfl (h.fr ((Fr.refl wr).drewN _)) [0] _ _ _ rfl rfl rfl ap.out W ?_);intro v' w4 m;have p:=m.own;rw[<- K.out]at p;obtain⟨va,vc,Z⟩:=p.shape';subst Z;have aa:=h.fr ((Fr.refl wr).drewN 1);have k0:=m.chg'.heap (show _=_ from I) (λe=>by have:=G _ e;omega);have z:=m.chg'.heap (show _=_ from O) (λe=>by have:=G _ e;omega);have R:Fr w w4:=m.below (h.fr ((Fr.refl wr).drewN _)) (J.drewN _) (by rw[V];omega) (J.drewN _).size;have a7:g+2<=w4.heap.size:=ar W m.size;have e3:=af z 2 rfl;have e4:w4.frozen? ⟨g+1,2,none⟩=false:=aB z 2;clear m h aa;go_wp2;go_roundw;·exact⟨i+1,_,ω,γ,by rw[kh _ _ _ _ σ];exact k0,aI z 2 _,by rw[<- Y.out];exact p.chg (ay w4 ⟨g+1,2,none⟩ _) (λk M e=>(p.ne_cells z δ) (by rw[M,show k=g+1 from e])),ag.below R (ay w4 ⟨g+1,2,none⟩ _) R.size (λi e=>by have e:i=g+1:=e;rw[V];omega),by simp[World.setCell];omega⟩
    ·exact μ
  ·obtain rfl:D=i:=ω;rw[<- HA.out]at h;have b1:¬((D:Int)<D):=ω;have a0:(prog.info? 165).map (·.size)=some 3:=(by kernel_rfl);have aC:(#[N n,N n,d]:Array Value).all (·.oneCell')=true:=(by obtain⟨va,vc,rfl⟩:=h.shape';rw[dQ];rfl);have G:∀q,d.ownBlock=some q->g+2<=q:=λq o=>(h.lt q o).1;have ba:Ow (wr.setRow g #[N n,N n,d]) (g+2) eB d (eF n):=h.chg (bh wr g _) λq o=>(by have:=G q o;show ¬q=g;omega);have bb:Fr w (wr.setRow g #[N n,N n,d]):=ag.below J (bh wr g _) J.size (λq o=>by rw[o];omega);have z0:=fk wr g 0 _ #[N n,N n,d] _ _ I;have z1:=fk wr g 1 _ #[N n,N n,d] _ _ I;have z2:=fk wr g 2 _ #[N n,N n,d] _ _ I;clear h ah HA ac;go_wp2_with (first | (refine dM rfl 165 (.tmp 4) rfl (g+1) rfl 165 #[N n,N n,d] (0,0) _ O uAF rfl a0 ?_) | (refine bB rfl 165 (.tmp 2) (.tmp 37) rfl g #[N n,N n,d] rfl rfl 165 _ I a0 rfl aC ?_));exact aT (v:=.tuple #[.agg #[N n,N n,d],.int .i64 0]) (by simp[results,results205,go_sem, *]) rfl ⟨_,rfl,ba.rebase ω,bb⟩
def Bk(m:Nat)(A:Nat->Nat->UInt8)(i j:Nat)(h:j<m):(cw m A i)[j]'(by rw[iL];exact h)=A i j:=by simp[cw]
def I8(m:Nat)(A:Nat->Nat->UInt8)(i j:Nat)(h:j<m):(cw m A i).take (j+1)=(cw m A i).take j++[A i j]:=by
 rw[qK,cQ (by rw[iL];exact h),Bk m A i j h];rfl
def Oh(M:U0)(n i j:Nat)(h:j<n):dy (fI M n) n i j=M.getD (i*n+j) 0:=by unfold dy fI;rw[an h]
def Oj(M:U0)(n i j:Nat)(h:¬j<n):dy (fI M n) n i j=if j-n=i then 1 else 0:=by unfold dy;rw[ae h]
def _root_.Go.Fk.dV.app{P:Program}{β:Type}{E:aJ P UInt8}{F:aJ P β}{w w':World}{base b m:Nat}{d:List Hd}{A:Nat->Nat->UInt8}{v v':Value}{l e:List β}(h:dV w base E d m A)(f:Ow w b F v l)(o:dF b F e w v v' w')(p:F.e≠E.e):dV w' base E d m A:=
 ⟨λt q=>bX (h.own t q) f o p,h.ne⟩
def oE{w:World}{base rg J n m r j:Nat}{f:List Hd}{A:Nat->Nat->UInt8}(z:Ow w base aS (.slice (some ⟨rg,0,none⟩) n J) f)(K:dV w base eB f m A)(D:r<f.length)(F:j<m):∃d o,f[r].v=.slice (some ⟨d,0,none⟩) m o/\w.cell? ⟨rg,r,none⟩=some (.slice (some ⟨d,0,none⟩) m o)/\w.cell? ⟨d,j,none⟩=some (.int .u8 ((A r j).toNat:Int))/\w.frozen? ⟨d,j,none⟩=false/\base<=d/\w.frozen? ⟨rg,r,none⟩=false/\d≠rg:=by
 have p:=K.own r D;obtain⟨d,o,q,L,_⟩:=p.atHead (by intro e;have:=iL m A r;rw[e]at this;simp at this;omega);rw[iL]at q;rw[q]at p;obtain⟨G,M⟩:=z.cellAt (λ(h:Hd)=>h.v) rfl r D;obtain⟨I,O⟩:=p.cellAt Fk.u8 rfl j (by rw[iL];exact F);rw[Bk m A r j F]at I;rw[q]at G;refine⟨d,o,q,G,I,O,L,M,λe=>?_⟩;rcases lE p z δ with h | h;·cases h
 ·exact h (by rw[e];rfl)
def I9(n:Nat)(A:Nat->Nat->UInt8)(i:Nat):(cw (n+n) A i).drop n=cw n (λr j=>A r (n+j)) i:=by
 apply jI;·rw[bn,iL,iL];omega
 ·intro j d e;simp[cw]
def Jp(n:Nat)(F:Nat->Nat->UInt8)(i:Nat):aW n F ((i+1)*n)=aW n F (i*n)++cw n F i:=by
 unfold aW cw;rw[bP,gl,List.range_add,gq,ny];congr 1;refine lP λj d=>?_;have d:=im.1 d;simp only[Function.comp];rw[pd n i j d,oS n i j d]
def Hp(A:Nat->Nat->UInt8)(i p:Nat):et A p i=et A i p:=by
 funext r j;unfold et;grind
def kz(S:Nat->Nat->UInt8)(i k J:Nat):Nat->Nat->UInt8:=λr c=>if r=k/\c<J then S k c ^^^ bp (S k i) (S i c)else cP S i k r c
def Mq(S:Nat->Nat->UInt8)(i k:Nat):kz S i k 0=cP S i k:=by funext r c;simp[kz]
def Mr(S:Nat->Nat->UInt8)(i k J:Nat):(λr c=>if r=k/\c=J then S k J ^^^ bp (S k i) (S i J)else kz S i k J r c)=kz S i k (J+1):=by
 funext r c;unfold kz;grind
def Ms(S:Nat->Nat->UInt8)(i k m:Nat)(h:k≠i):∀r c,c<m->kz S i k m r c=cP S i (k+1) r c:=by
 intro r c d;unfold kz cP;grind
def In(f:Nat->Nat->UInt8)(i:Nat)(c:UInt8)(m:Nat):∀r j,j<m->iW f i c m r j=jr f i c r j:=by
 intro r j d;unfold iW jr;grind
def PN(n:Nat)(M:U0)(v:Value)(w:World)(fl:ao w eB v M)(hM:M.length=n*n)(h1:1<=n)(hn:n<=255)(hG:zn M n):Calls prog 209 #[.agg #[N n,N n,v]] w λe w'=>∃u,e=.returned (.tuple #[.agg #[N n,N n,u],.int .i64 0])/\Ow w' w.heap.size eB u (jO M n)/\Fr w w':=by
 obtain⟨a,a6,fv,_⟩:=fl.shape;rw[hM]at fv;subst fv;have HM:=ad (uG n n a a6 hn hn);have fC:=ad hM;have fD:Hid (∀i,i<n->mr (gt (dy (fI M n) n) n i) n i):=hG;have HS:Hid (∀i,gt (dy (fI M n) n) n (i+1)=cP (iV (gt (dy (fI M n) n) n i) n i) i n):=λ_=>rfl;have HZ:Hid (gt (dy (fI M n) n) n 0=dy (fI M n) n):=rfl;have HI:Hid (jO M n=aW n (λr j=>gt (dy (fI M n) n) n n r (n+j)) (n*n)):=rfl;have fP:=ad (λi j h=>Oh M n i j h);have fQ:=ad (λi j h=>Oj M n i j h);generalize jO M n=IV,dy (fI M n) n=A0,gt (dy (fI M n) n) n=U at *;have m6:n*n<=255*255:=bo hn hn;have HMul:Hid (∀i j,i<n->j<n->i*n+j<n*n):=λi j hi hj=>by have:=cY n (show i+1<=n by omega);rw[bP]at this;omega
 obtain⟨d,fS⟩:∃q,q=n+n:=⟨_,rfl⟩;have ga:=ad fS;have m8:IntKind.i64.wrap (2*(n:Int))=(d:Int):=by rw[show 2*(n:Int)=(d:Int) by omega];exact dS _ ω
 have m9:d<=510:=ω
 have mB:n<d:=ω
 clear hG hM fS;generalize ih:n*n=nn at *;have b1:((w.alloc (.cells #[N n,N n,.slice a nn a6] 165)).alloc (.cells #[.int .i64 0,.int .i64 0,.slice none 0 0] 165)).heap[w.heap.size]?=some (.cells #[N n,N n,.slice a nn a6] 165 (0,0)):=by rw[gn _ _ _ σ,aD _ _ _ rfl]
 have gb:((w.alloc (.cells #[N n,N n,.slice a nn a6] 165)).alloc (.cells #[.int .i64 0,.int .i64 0,.slice none 0 0] 165)).heap[w.heap.size+1]?=some (.cells #[.int .i64 0,.int .i64 0,.slice none 0 0] 165 (0,0)):=aD _ _ _ σ;have gc:Fr w ((w.alloc (.cells #[N n,N n,.slice a nn a6] 165)).alloc (.cells #[.int .i64 0,.int .i64 0,.slice none 0 0] 165)):=((Fr.refl w).alloc _).alloc _;have i0:((w.alloc (.cells #[N n,N n,.slice a nn a6] 165)).alloc (.cells #[.int .i64 0,.int .i64 0,.slice none 0 0] 165)).heap.size=w.heap.size+2:=σ
 go_in;go_upto_region 1 with fail;generalize (w.alloc (.cells #[N n,N n,.slice a nn a6] 165)).alloc (.cells #[.int .i64 0,.int .i64 0,.slice none 0 0] 165)=w0 at *;have k0:=af b1 0 rfl;have k1:=af b1 1 rfl;have k2:=af b1 2 rfl;generalize hb:w.heap.size=g at *;go_wp2_with fail;refine(HM.out _).mono ?_;rintro e w1 ⟨rfl,bd⟩;have c0:=bd.cell k0;have c1:=bd.cell k1;have b2:=bd.heap b1;have G:=bd.heap gb;have gs:=gc.trans bd;have b3:g+2<=w1.heap.size:=by have:=bd.size;omega
 clear k0 k1 k2 gc b1 gb bd HM i0;go_upto_region 6 with fail;go_loopw [5,6] (λrv iv wr=>∃(i:Nat) (D:List Hd),i<=n/\iv=N i/\Ow wr (g+2) aS rv D/\dV wr (g+2) eB D d A0/\D.length=i/\wr.heap[g]?=some (.cells #[N n,N n,.slice a nn a6] 165 (0,0))/\wr.heap[g+1]?=some (.cells #[.int .i64 0,.int .i64 0,.slice none 0 0] 165 (0,0))/\Fr w wr/\g+2<=wr.heap.size) (λ_ iv _=>n-(intOf iv).toNat);·exact⟨0,[],ax _,rfl,Ow.nil,dV.nil,rfl,b2,G,gs,b3⟩
 ·
  clear c0 c1 b2 G gs b3;obtain⟨i,D,hi,rfl,o,m,R,b2,G,I,K⟩:=hrel;by_cases b4:i<n
  ·have gv:(i:Int)<n:=ω;obtain⟨oa,oc,g0⟩:=o.shape';have ak:=ad R;rw[R]at g0;subst g0;clear R;obtain⟨W,j0⟩:∃W:World,W=wr:=⟨_,rfl⟩;subst j0;have j1:Hid ((cw d A0 i).take 0=[]):=rfl;have j2:=ad (λj h=>I8 d A0 i j h);have j3:=ad (fP.out i);have j4:=ad (fQ.out i);have j5:=ad (λj=>HMul.out i j b4);have na:i*n<=255*255:=bo ω hn;have nb:=oz i n 255 255 ω hn ω;have g3:(cw d A0 i).length=d:=iL _ _ _;have c7:=ad g3;generalize i*n=a8 at *;clear g3;go_wp2;go_loopw [7,8] (λX jv wr=>∃j:Nat,j<=d/\jv=N j/\Ow wr W.heap.size eB X ((cw d A0 i).take j)/\Fr W wr) (λ_ jv _=>d-(intOf jv).toNat);·exact⟨0,ax _,rfl,by rw[j1.out];exact Ow.nil,Fr.refl W⟩
   ·
    obtain⟨j,hj,rfl,hr,L⟩:=hrel;have g4:=L.heap b2;have c2:=af g4 2 rfl;by_cases a9:j<d
    ·have g5:(j:Int)<d:=ω;have b5:=ad (j2.out j a9);have c8:Hid (((cw d A0 i).take j).length+1<=2147483648):=(by show _<=_;rw[aP];omega);obtain⟨P3,cl⟩:∃q,q=(cw d A0 i).take (j+1):=⟨_,rfl⟩;rw[<- cl]at b5;have c9:=ad cl;have gO:P3.length=j+1:=(by rw[cl,aP,c7.out];omega);have cB:=ad gO;clear cl gO;generalize j7:(cw d A0 i).take j=P0 at *;clear j7;have ka:∃x,A0 i j=x:=⟨_,rfl⟩;obtain⟨x,hx⟩:=ka;rw[hx]at b5;by_cases cC:j<n
     ·have kb:(j:Int)<n:=ω;have cE:=j5.out j cC;have ha:a8+j<M.length:=(by rw[fC.out];exact cE);obtain⟨mb,kd,mc,hd,em⟩:=(fl.fr (I.trans L)).cell1 (λc=>Fk.u8 c) rfl (a8+j) ha;rw[<- ce M _ 0 ha,<- j3.out j cC,hx]at em;simp only[dt]at hd;obtain⟨rfl,ke,rfl⟩:=hd;have ne:IntKind.i64.wrap ((a8:Int)+j)=((a8+j:Nat):Int):=(by rw[show(a8:Int)+j=((a8+j:Nat):Int) by omega];exact dS _ ω);have nf:wr.cell? ⟨mb,kd+(a8+j),none⟩=some (.int .u8 (x.toNat:Int)):=em;generalize a8+j=ij at *;have i4:(ij:Int)<nn:=ω;have i5:(0:Int)<=ij:=ω;clear ke em hx;go_wp2_with (at_builtin;refine bA eB rfl (.tmp 61) (.tmp 63) 22 rfl sJ W.heap.size rfl hr [x] _ _ _ rfl rfl rfl c8.out L.size ?_);intro v' w4 J;have O:=J.own;rw[<- b5.out]at O;obtain⟨va,vc,ab⟩:=O.shape';rw[cB.out]at ab;subst ab;have av:Fr W w4:=J.below hr L (au _) L.size;clear J;go_wp2;go_roundw;·exact⟨j+1,ω,γ,by rw[<- c9.out];exact O,av⟩
      ·exact μ
     ·have kb:¬(j:Int)<n:=ω;have nl:IntKind.i64.wrap ((j:Int)-n)=((j-n:Nat):Int):=(by rw[show(j:Int)-n=((j-n:Nat):Int) by omega];exact dS _ ω);have b9:=j4.out j cC;rw[hx]at b9;generalize j-n=jn at *;by_cases cm:jn=i
      ·rw[an cm]at b9;have kk:(jn:Int)=i:=ω;subst b9;clear hx cm;go_wp2_with (at_builtin;refine bA eB rfl (.tmp 61) (.tmp 63) 22 rfl sJ W.heap.size rfl hr [1] _ _ _ rfl rfl rfl c8.out L.size ?_);intro v' w4 J;have O:=J.own;rw[<- b5.out]at O;obtain⟨va,vc,ab⟩:=O.shape';rw[cB.out]at ab;subst ab;have av:Fr W w4:=J.below hr L (au _) L.size;clear J;go_wp2;go_roundw;·exact⟨j+1,ω,γ,by rw[<- c9.out];exact O,av⟩
       ·exact μ
      ·rw[ae cm]at b9;have kk:¬(jn:Int)=i:=ω;subst b9;clear hx cm;go_wp2_with (at_builtin;refine bA eB rfl (.tmp 61) (.tmp 63) 22 rfl sJ W.heap.size rfl hr [0] _ _ _ rfl rfl rfl c8.out L.size ?_);intro v' w4 J;have O:=J.own;rw[<- b5.out]at O;obtain⟨va,vc,ab⟩:=O.shape';rw[cB.out]at ab;subst ab;have av:Fr W w4:=J.below hr L (au _) L.size;clear J;go_wp2;go_roundw;·exact⟨j+1,ω,γ,by rw[<- c9.out];exact O,av⟩
       ·exact μ
    ·have aC:j=d:=ω;rw[aC]at hr ⊢;rw[dN (by rw[c7.out];exact au _)]at hr;have cN:¬((d:Int)<d):=ω;clear aC;obtain⟨sa,sc,hg⟩:=hr.shape';rw[c7.out]at hg;subst hg;have az:=o.fr L;have a4:=m.fr L;have hh:=I.trans L;have ba:g+2<=wr.heap.size:=ar K L.size;have kl:=L.heap G;go_wp2_with (at_builtin;refine bA aS rfl (.tmp 65) (.tmp 67) 42 rfl uAE (g+2) rfl az [⟨sa,d,sc⟩] _ _ _ rfl rfl rfl ?c1 ba ?_);case c1=>rw[ak.out];omega
     intro v' w4 J;have bC := (a4.app az J (by decide)).snoc (x := ⟨sa, d, sc⟩) (by rw [ak.out]; exact bX (hr.rebase K) az J (by decide)) (fun t ht => by
       cases hx : D[t].v.ownBlock with
       | none => exact .inl rfl
       | some k =>
         refine .inr λe => ?_;have h1 := (hr.lt k e.symm).1;have h2 := ((m.own t ht).lt k hx).2
         omega)
     obtain⟨X2,da⟩:∃q,q=D++[(⟨sa,d,sc⟩:Hd)]:=⟨_,rfl⟩;have O:=J.own;rw[<- da]at O bC;have db:X2.length=i+1:=(by rw[da,aM,ak.out];rfl);have kq:=ad db;obtain⟨va,vc,ab⟩:=O.shape';rw[db]at ab;subst ab;have cn:∀k,(Value.slice oa i oc).ownBlock=some k->g+2<=k:=λk Y=>(az.lt k Y).1;have m0:=J.chg'.heap g4 (λe=>by have:=cn _ e;omega);have m1:=J.chg'.heap kl (λe=>by have:=cn _ e;omega);have av:Fr w w4:=J.below az hh (by rw[hb];omega) hh.size;have hm:g+2<=w4.heap.size:=ar ba J.size;clear J da db az a4 m o hr;go_wp2;go_roundw;·exact⟨i+1,X2,ω,γ,O,bC,kq.out,m0,m1,av,hm⟩
     ·exact μ
  ·obtain rfl:n=i:=ω;have cN:¬((n:Int)<n):=ω;rw[<- HZ.out]at m;obtain⟨rg,rc,bt,_⟩:=o.atHead (by intro e;rw[e]at R;simp at R;omega);rw[R]at bt;subst bt;have ak:=ad R;clear R fP fQ HMul b2 fC;go_upto_region 20 with fail;go_loopw [10] (λiv wr=>∃(i:Nat) (D:List Hd),i<=n/\iv=N i/\Ow wr (g+2) aS (.slice (some ⟨rg,0,none⟩) n rc) D/\dV wr (g+2) eB D d (U i)/\D.length=n/\wr.heap[g+1]?=some (.cells #[.int .i64 0,.int .i64 0,.slice none 0 0] 165 (0,0))/\Fr w wr/\g+2<=wr.heap.size) (λiv _=>n-(intOf iv).toNat);·exact⟨0,D,ax _,rfl,o,m,ak.out,G,I,K⟩
   ·
    clear o m ak G I K;obtain⟨i,D,hi,rfl,o,m,R,G,I,K⟩:=hrel;by_cases b4:i<n
    ·have gv:(i:Int)<n:=ω;obtain⟨k4,nr,ho,hp⟩:=fD.out i b4;have hu:=ad (HS.out i);have dc:Hid (iV (U i) n i=jr (et (U i) i (iA (U i) n i)) i (ft (U i (iA (U i) n i) i))):=rfl;generalize iA (U i) n i=P at *;obtain⟨A9,dd⟩:∃q,q=U (i+1):=⟨_,rfl⟩;rw[<- dd]at hu;have k6:=ad dd;clear dd;generalize U i=A at *;have k7:(0:Int)<=i:=ω;have ns:(i:Int)<d:=ω;go_wp2_with fail;go_loop [11] (λpv=>∃p:Nat,i<=p/\p<=P/\pv=N p) (λpv=>P-(intOf pv).toNat);·exact⟨i,au _,k4,rfl⟩
     ·
      obtain⟨p,k8,nv,rfl⟩:=hrel;obtain⟨gr,cr,hv,e1,e2,_,_,_,_⟩:=oE (r:=p) (j:=i) o m ω ω;have hy:=ad hv;clear hv;have nw:(p:Int)<n:=ω;have nx:(0:Int)<=p:=ω;by_cases la:p<P
      ·have hz:(A p i).toNat=0:=(by rw[hp p k8 la];rfl);rw[hz]at e2;go_wp2_with fail;go_round;·exact⟨p+1,ω,ω,γ⟩
       ·exact μ
      ·obtain rfl:P=p:=ω;have hz:¬((A P i).toNat:Int)=0:=λe=>ho (fO.1 (by rw[uS];omega));have n0:¬(P:Int)=n:=ω;obtain⟨gi,ci,bL,d1,_,_,_,dz,_⟩:=oE (r:=i) (j:=i) o m ω ω;have bu:=ad bL;clear bL;generalize (A P i).toNat=ap at *;go_upto_region 27 with fail;have bb:P<D.length:=ω;have V:i<D.length:=ω;obtain⟨bf,dl⟩:∃x,x=D[P]'bb:=⟨_,rfl⟩;obtain⟨bk,ds⟩:∃x,x=D[i]'V:=⟨_,rfl⟩;have dv:bf.v=.slice (some ⟨gr,0,none⟩) d cr:=(by rw[dl];exact hy.out);have dE:bk.v=.slice (some ⟨gi,0,none⟩) d ci:=(by rw[ds];exact bu.out);have s1:=o.set (λ(h:Hd)=>h.v) rfl i V bf _ dv;have s2:=s1.set (λ(h:Hd)=>h.v) rfl P (by simpa using bb) bk _ dE;have r2:=((m.beside (i:=i) (u:=.slice (some ⟨gr,0,none⟩) d cr) o rfl δ).beside (i:=P) (u:=.slice (some ⟨gi,0,none⟩) d ci) s1 rfl δ).swap i P V bb;have t1:=o.set (λ(h:Hd)=>h.v) rfl P bb bk _ dE;have t2:=t1.set (λ(h:Hd)=>h.v) rfl i (by simpa using V) bf _ dv;have q2:=((m.beside (i:=P) (u:=.slice (some ⟨gi,0,none⟩) d ci) o rfl δ).beside (i:=i) (u:=.slice (some ⟨gr,0,none⟩) d cr) t1 rfl δ).swap P i bb V;obtain⟨z1,f1⟩:∃z,(wr.setCell ⟨rg,i,none⟩ (.slice (some ⟨gr,0,none⟩) d cr)).cell? ⟨rg,P,none⟩=some z:=⟨_,(s1.cellAt (λ(h:Hd)=>h.v) rfl P (by simpa using bb)).1⟩;have f2:=(s1.cellAt (λ(h:Hd)=>h.v) rfl P (by simpa using bb)).2;obtain⟨z2,f3⟩:∃z,(wr.setCell ⟨rg,P,none⟩ (.slice (some ⟨gi,0,none⟩) d ci)).cell? ⟨rg,i,none⟩=some z:=⟨_,(t1.cellAt (λ(h:Hd)=>h.v) rfl i (by simpa using V)).1⟩;have f4:=(t1.cellAt (λ(h:Hd)=>h.v) rfl i (by simpa using V)).2;rw[Hp]at q2;rw[<- dl,<- ds]at q2 r2;have n3:=(o.lt rg rfl).1;have ct:∀(i P:Nat) (u v:Value),ag (λk=>k=rg) wr ((wr.setCell ⟨rg,i,none⟩ u).setCell ⟨rg,P,none⟩ v):=λi P u v=>(ay wr ⟨rg,i,none⟩ u).trans (ay _ ⟨rg,P,none⟩ v) λ_ _ h=>h;have ca:∀(i P:Nat) (u v:Value),Fr w ((wr.setCell ⟨rg,i,none⟩ u).setCell ⟨rg,P,none⟩ v):=λi P u v=>ag.below I (ct i P u v) I.size (λk e=>by rw[e,hb];omega);have cb:∀(i P:Nat) (u v:Value),((wr.setCell ⟨rg,i,none⟩ u).setCell ⟨rg,P,none⟩ v).heap[g+1]?=some (.cells #[.int .i64 0,.int .i64 0,.slice none 0 0] 165 (0,0)):=λi P u v=>(ct i P u v).heap G (λe=>by omega);have cf:∀(i P:Nat) (u v:Value),g+2<=((wr.setCell ⟨rg,i,none⟩ u).setCell ⟨rg,P,none⟩ v).heap.size:=λi P u v=>ar K (ct i P u v).size;have h7:((D.set i bf).set P bk).length=n:=(by simp[R]);have h8:((D.set P bk).set i bf).length=n:=(by simp[R]);have HX:=ad (And.intro s2 (And.intro r2 (And.intro t2 (And.intro q2 (And.intro h7 h8)))));clear s1 s2 r2 t1 t2 q2 h7 h8 ct dv dE hy bu;generalize (D.set P bk).set i bf=bl,(D.set i bf).set P bk=eb at *;clear R m o bb V dl ds;go_cut []from 86 to 108 (λwx=>∃bl,Ow wx (g+2) aS (.slice (some ⟨rg,0,none⟩) n rc) bl/\dV wx (g+2) eB bl d (et A i P)/\bl.length=n/\wx.heap[g+1]?=some (.cells #[.int .i64 0,.int .i64 0,.slice none 0 0] 165 (0,0))/\Fr w wx/\g+2<=wx.heap.size)
       ·
        go_region;all_goals go_wp2_with fail
        all_goals go_meet
        all_goals first
         | exact⟨eb,HX.out.1,HX.out.2.1,HX.out.2.2.2.2.1,cb _ _ _ _,ca _ _ _ _,cf _ _ _ _⟩
         | exact⟨bl,HX.out.2.2.1,HX.out.2.2.2.1,HX.out.2.2.2.2.2,cb _ _ _ _,ca _ _ _ _,cf _ _ _ _⟩
         | exact⟨eb,HX.out.1.drew,HX.out.2.1.drew,HX.out.2.2.2.2.1,cb _ _ _ _,(ca _ _ _ _).drew,cf _ _ _ _⟩
         | exact⟨bl,HX.out.2.2.1.drew,HX.out.2.2.2.1.drew,HX.out.2.2.2.2.2,cb _ _ _ _,(ca _ _ _ _).drew,cf _ _ _ _⟩
       ·
        clear HX G I K cb ca cf e1 e2 d1 dz eb bl f1 f2 f3 f4;obtain⟨D,o,m,R,G,I,K⟩:=hcut;have V:i<D.length:=ω;obtain⟨gi,ci,bL,d1,d2,dz,n4,_,lo⟩:=oE (r:=i) (j:=i) o m V ω;have h9:et A i P i i=A P i:=(by unfold et;rw[an rfl]);rw[h9]at d2;have HI:=ad (EZ (A P i).toNat (A P i).toNat_lt);obtain⟨er,hB⟩:=tY (A P i).toNat;rw[hB,CZ]at HI;have bu:=ad bL;have ak:=ad R;clear hB h9 ho hp bL R dz;obtain⟨cc,hE⟩:∃q,q=ft (A P i):=⟨_,rfl⟩;rw[<- hE]at HI dc;clear hE;generalize (A P i).toNat=ap2,et A i P=Z at *;have lr:=cc.toNat_lt;go_wp2_with fail;refine(HI.out _).mono ?_;rintro e w5 ⟨rfl,rfl⟩;go_upto_region 30 with fail;have hH:=ad (m.congr (A':=iW Z i cc 0) (λt _ j _=>by rw[Ba]));clear m d1 d2 HI;go_loopw [14] (λjv wr=>∃j:Nat,j<=d/\jv=N j/\Ow wr (g+2) aS (.slice (some ⟨rg,0,none⟩) n rc) D/\dV wr (g+2) eB D d (iW Z i cc j)/\wr.heap[g+1]?=some (.cells #[.int .i64 0,.int .i64 0,.slice none 0 0] 165 (0,0))/\Fr w wr/\g+2<=wr.heap.size) (λjv _=>d-(intOf jv).toNat);·exact⟨0,ax _,rfl,o,hH.out,G,I,K⟩
        ·
         clear o hH G I K;obtain⟨j,hj,rfl,o,m,G,I,K⟩:=hrel;by_cases a9:j<d
         ·have g5:(j:Int)<d:=ω;have ls:(0:Int)<=j:=ω;obtain⟨lt,lu,bv,d1,d2,dz,_,_,_⟩:=oE (r:=i) (j:=j) o m V a9;rw[bu.out]at bv;simp only[dt,ji,pI,lj]at bv;obtain⟨rfl,_,rfl⟩:=bv;have hI:iW Z i cc j i j=Z i j:=(by unfold iW;rw[ae ω]);rw[hI]at d2;have ec:=ad (uF (Z i j).toNat cc.toNat (Z i j).toNat_lt lr);have HB:Hid (Value.int .u8 ((aO (Z i j).toNat cc.toNat:Nat):Int)=Fk.u8 (bp cc (Z i j))):=(by show _=Value.int .u8 _;rw[mR,ju]);have a5:=m.set rfl i j V a9 (bp cc (Z i j)) bu.out;rw[Bb,<- HB.out]at a5;have ef:=ad a5;have al:=ay wr ⟨gi,j,none⟩ (Value.int .u8 ((aO (Z i j).toNat cc.toNat:Nat):Int));have az:=o.chg al (λk Y e=>by simp[Value.ownBlock]at Y;exact lo (by rw[Y];exact e.symm));have L:Fr w (wr.setCell ⟨gi,j,none⟩ (Value.int .u8 ((aO (Z i j).toNat cc.toNat:Nat):Int))):=ag.below I al I.size (λk e=>by have e:k=gi:=e;omega);have ek:=al.heap G (λe=>by have e:g+1=gi:=e;omega);have ba:g+2<=(wr.setCell ⟨gi,j,none⟩ (Value.int .u8 ((aO (Z i j).toNat cc.toNat:Nat):Int))).heap.size:=ar K al.size;clear a5 al HB hI m;generalize (Z i j).toNat=xx,aO (Z i j).toNat cc.toNat=mm at *;go_upto_region 32 with fail;go_still_tail 15,(by kernel_rfl);still_call ((ec.out _).mono λ_ _ h=>⟨h.1,h.2.symm⟩);repeat still_step
          refine wpStill_nil ?_;change wpList _ _ _ _ _ wr.drew;go_wp2;go_roundw;·exact⟨j+1,ω,γ,az.drew,ef.out.drew,ek,L.drew,ba⟩
          ·exact μ
         ·have aC:j=d:=ω;rw[aC]at m ⊢;have a4:=m.congr (A':=iV A n i) (λt _ c hc=>by rw[dc.out];exact In Z i cc d t c hc);have hJ:=ad (a4.congr (A':=cP (iV A n i) i 0) (λt _ c _=>by rw[D6]));have cN:¬((d:Int)<d):=ω;clear aC m a4 bu dc;generalize iV A n i=S at *;go_upto_region 34 with fail;go_loopw [15] (λkv wr=>∃k:Nat,k<=n/\kv=N k/\Ow wr (g+2) aS (.slice (some ⟨rg,0,none⟩) n rc) D/\dV wr (g+2) eB D d (cP S i k)/\wr.heap[g+1]?=some (.cells #[.int .i64 0,.int .i64 0,.slice none 0 0] 165 (0,0))/\Fr w wr/\g+2<=wr.heap.size) (λkv _=>n-(intOf kv).toNat);·exact⟨0,ax _,rfl,o,hJ.out,G,I,K⟩
          ·
           clear o hJ G I K;obtain⟨k,Y,rfl,o,m,G,I,K⟩:=hrel;by_cases lz:k<n
           ·have nF:(k:Int)<n:=ω;have nL:(0:Int)<=k:=ω;have ev:k<D.length:=(by rw[ak.out];exact lz);obtain⟨gk,ck,hK,d1,d2,_,ob,_,l0⟩:=oE (r:=k) (j:=i) o m ev ω;have hL:cP S i k k i=S k i:=(by unfold cP;rw[ae ω]);rw[hL]at d2;have hS:=ad hK;clear hK hL;by_cases e0:k=i
            ·have cu:=ad (m.congr (A':=cP S i (k+1)) (λt _ c _=>by rw[D8 S i k (.inl e0)]));obtain rfl:i=k:=e0.symm;generalize (S i i).toNat=dk at *;clear m;go_upto_region 38 with fail;go_loopw [17] (λjv l1=>jv=N 0/\l1=wr) (λ_ _=>0);·exact⟨rfl,rfl⟩
             ·
              obtain⟨rfl,rfl⟩:=hrel;go_wp2;go_roundw;·exact⟨i+1,ω,γ,o,cu.out,G,I,K⟩
              ·exact μ
            ·have od:¬(k:Int)=i:=ω;have oe:((k:Int) != i)=true:=(by rw[bne,show((k:Int) == i)=false from by simp;omega];rfl);have cu:=ad (m.congr (A':=kz S i k 0) (λt _ c _=>by rw[Mq]));have l2:=ad (Ms S i k d e0);have e5:=(S k i).toNat_lt;obtain⟨dk,e6⟩:∃q,q=(S k i).toNat:=⟨_,rfl⟩;rw[<- e6]at d2 e5;have l3:=ad e6;clear e6 m;go_upto_region 38 with fail;go_loopw [17] (λjv wr=>∃j:Nat,j<=d/\jv=N j/\Ow wr (g+2) aS (.slice (some ⟨rg,0,none⟩) n rc) D/\dV wr (g+2) eB D d (kz S i k j)/\wr.heap[g+1]?=some (.cells #[.int .i64 0,.int .i64 0,.slice none 0 0] 165 (0,0))/\Fr w wr/\g+2<=wr.heap.size) (λjv _=>d-(intOf jv).toNat);·exact⟨0,ax _,rfl,o,cu.out,G,I,K⟩
             ·
              clear o cu G I K d1 d2;obtain⟨j,hj,rfl,o,m,G,I,K⟩:=hrel;by_cases a9:j<d
              ·have g5:(j:Int)<d:=ω;have ls:(0:Int)<=j:=ω;obtain⟨ok,ol,e7,d1,d2,dz,_,_,_⟩:=oE (r:=k) (j:=j) o m ev a9;rw[hS.out]at e7;simp only[dt,ji,pI,lj]at e7;obtain⟨rfl,_,rfl⟩:=e7;obtain⟨lt,lu,bv,d3,d4,_,_,_,_⟩:=oE (r:=i) (j:=j) o m V a9;have oo:=ad bv;clear bv;have b3:kz S i k j k j=S k j:=(by unfold kz cP;rw[ae ω,ae ω]);have ba:kz S i k j i j=S i j:=(by unfold kz cP;rw[ae ω,ae σ]);rw[b3]at d2;rw[ba]at d4;have ec:=ad (uF dk (S i j).toNat e5 (S i j).toNat_lt);have cE:=kp dk (S i j).toNat e5;have oq:=ow (S k j).toNat (aO dk (S i j).toNat) (S k j).toNat_lt cE;have HB:Hid (Value.int .u8 (((S k j).toNat ^^^ aO dk (S i j).toNat:Nat):Int)=Fk.u8 (S k j ^^^ bp (S k i) (S i j))):=(by show _=Value.int .u8 _;rw[UInt8.toNat_xor,ju,l3.out]);have a5:=m.set rfl k j ev a9 (S k j ^^^ bp (S k i) (S i j)) hS.out;rw[Mr,<- HB.out]at a5;have ef:=ad a5;have al:=ay wr ⟨gk,j,none⟩ (Value.int .u8 (((S k j).toNat ^^^ aO dk (S i j).toNat:Nat):Int));have az:=o.chg al (λq hq e=>by simp[Value.ownBlock]at hq;exact l0 (by rw[hq];exact e.symm));have L:Fr w (wr.setCell ⟨gk,j,none⟩ (Value.int .u8 (((S k j).toNat ^^^ aO dk (S i j).toNat:Nat):Int))):=ag.below I al I.size (λq e=>by have e:q=gk:=e;omega);have ek:=al.heap G (λe=>by have e:g+1=gk:=e;omega);have ba:g+2<=(wr.setCell ⟨gk,j,none⟩ (Value.int .u8 (((S k j).toNat ^^^ aO dk (S i j).toNat:Nat):Int))).heap.size:=ar K al.size;clear a5 al HB b3 m;generalize (S k j).toNat=xx,(S i j).toNat=yy,aO dk (S i j).toNat=mm,(S k j).toNat ^^^ aO dk (S i j).toNat=xm at *;go_upto_region 40 with fail;go_still_tail 23,(by kernel_rfl);still_call ((ec.out _).mono λ_ _ h=>⟨h.1,h.2.symm⟩);repeat still_step
               refine wpStill_nil ?_;change wpList _ _ _ _ _ wr.drew;go_wp2;go_roundw;·exact⟨j+1,ω,γ,az.drew,ef.out.drew,ek,L.drew,ba⟩
               ·exact μ
              ·have aC:j=d:=ω;rw[aC]at m ⊢;have a4:=m.congr (A':=cP S i (k+1)) (λt _ c hc=>l2.out t c hc);have cN:¬((d:Int)<d):=ω;clear aC m;go_wp2;go_roundw;·exact⟨k+1,ω,γ,o,a4,G,I,K⟩
               ·exact μ
           ·obtain rfl:n=k:=ω;have l5:¬((n:Int)<n):=ω;have a4:=ad (m.congr (A':=A9) (λt _ c _=>by rw[hu.out]));clear m;go_wp2;go_roundw;·exact⟨i+1,D,ω,γ,o,by rw[<- k6.out];exact a4.out,ak.out,G,I,K⟩
            ·exact μ
    ·obtain rfl:n=i:=ω;have l5:¬((n:Int)<n):=ω;have ak:=ad R;clear R fD HS HZ;have l6:Hid (∀i,(cw d (U n) i).drop n=cw n (λr j=>U n r (n+j)) i):=λi=>(by rw[ga.out];exact I9 n (U n) i);have e8:=ad (λr=>iL d (U n) r);generalize hF:(λr j=>U n r (n+j))=F at *;clear hF;have l7:=ad (λi=>Jp n F i);have ma:Hid (aW n F (0*n)=[]):=ad (by rw[qH];rfl);have mg:=ad (λt=>eg n F t);have mk:Hid (∀i,i<=n->i*n<=255*255):=λi hi=>bo ω hn;have hq:wr.heap.size=wr.heap.size:=rfl;have hA:(wr.alloc (.cells #[N n,N n,.slice none 0 0] 165)).heap[wr.heap.size]?=some (.cells #[N n,N n,.slice none 0 0] 165 (0,0)):=aD _ _ _ rfl;have bm:Fr wr (wr.alloc (.cells #[N n,N n,.slice none 0 0] 165)):=(Fr.refl wr).alloc _;have eC:=o.fr bm;have eL:=m.fr bm;have fa:=bm.heap G;have fb:=I.trans bm;have hT:g+2<=(wr.alloc (.cells #[N n,N n,.slice none 0 0] 165)).heap.size:=ar K bm.size;have mn:=ad (λr (h:r<D.length) k Y=>((m.own r h).lt k Y).2);clear o m G I;go_upto_region 43 with fail;obtain⟨W0,fc⟩:∃q,q=wr.alloc (.cells #[N n,N n,.slice none 0 0] 165):=⟨_,rfl⟩;rw[<- fc]at hA bm eC eL fa fb hT ⊢;have hU:wr.heap.size+1<=W0.heap.size:=(by rw[fc];simp);clear fc hq;generalize wr.heap.size=Q at *;go_loopw [19] (λiv wr=>∃(i:Nat) (X:Value),i<=n/\iv=N i/\Ow wr (Q+1) eB X (aW n F (i*n))/\wr.heap[Q]?=some (.cells #[N n,N n,X] 165 (0,0))/\Ow wr (g+2) aS (.slice (some ⟨rg,0,none⟩) n rc) D/\(∀r (h:r<D.length),Ow wr (g+2) eB D[r].v (cw d (U n) r))/\wr.heap[g+1]?=some (.cells #[.int .i64 0,.int .i64 0,.slice none 0 0] 165 (0,0))/\Fr w wr/\Q+1<=wr.heap.size) (λiv _=>n-(intOf iv).toNat);·exact⟨0,_,ax _,rfl,by rw[ma.out];exact Ow.nil,hA,eC,λr h=>eL.own r h,fa,fb,hU⟩
     ·
      clear hA eC eL fa fb hT hU bm;obtain⟨i,X,hi,rfl,hX,cv,o,m,G,I,hV⟩:=hrel;by_cases b4:i<n
      ·have gv:(i:Int)<n:=ω;have k7:(0:Int)<=i:=ω;have V:i<D.length:=(by rw[ak.out];exact b4);have cz:=(m i V).see;obtain⟨ms,_⟩:=o.cellAt (λ(h:Hd)=>h.v) rfl i V;obtain⟨ra,ov,bt,_,_,_⟩:=cz.shape;rw[e8.out]at bt;rw[bt]at ms cz;obtain⟨f1,f2,hW,c3⟩:=gN eB 22 sJ cz n (by rw[e8.out];omega);rw[l6.out i]at c3;rw[e8.out]at hW c3;rw[show d-n=n by have:=ga.out;omega]at hW c3;have hY:=ad (l7.out i);have mu:Hid ((aW n F (i*n)).length+(cw n F i).length<=2147483648):=(by show _<=_;rw[mg.out,iL];have:=mk.out i hi;omega);have c2:=af cv 2 rfl;have mv:=hX.ne_cells cv δ;have hZ:=λk Y=>(hX.lt k Y).1;have mx:=mn;obtain⟨P2,fe⟩:∃q,q=aW n F ((i+1)*n):=⟨_,rfl⟩;rw[<- fe]at hY;have my:=ad fe;clear fe cz bt;generalize cw n F i=rwF,aW n F (i*n)=P1 at *;have fh:=hX.drew;have m2:=c3.drew;go_upto_region 45 with fail
       go_region_law (refine mH eB rfl (.tmp 195) (.tmp 201) 22 rfl sJ (Q + 1) rfl fh _ _ rfl m2 mu.out hV ?_
                      intro v' w4 J
                      have O := J.own
                      rw[← hY.out] at O
                      obtain ⟨va, vc, ab⟩ := O.shape'
                      subst ab
                      have bx := J.chg'.heap (show wr.drew.heap[Q]? = _ from cv) mv
                      have ia := bX o.drew fh J δ
                      have bC : ∀ r (h : r < D.length), Ow w4 (g + 2) eB D[r].v (cw d (U n) r) := fun r h => J.other (m r h).drew (by
                        cases hx : D[r].v.ownBlock with
                        | none => exact .inl rfl
                        | some k =>
                          refine .inr λe => ?_
                          have h1 := hZ k e.symm
                          have h2 := mx.out r h k hx
                          omega)
                      have m3 := J.chg'.heap (show wr.drew.heap[g + 1]? = _ from G) (λe => by have := hZ _ e; omega)
                      have av : Fr w w4 := J.below fh (Fr.drew I) (by rw[hb]; omega) (Fr.drew I).size
                      have hm : Q + 1 ≤ w4.heap.size := ar hV J.size
                      have e3 := af bx 2 rfl
                      have e4 : w4.frozen? ⟨Q, 2, none⟩ = false := aB bx 2)
       all_goals go_wp2_with fail
       all_goals go_roundw
       all_goals first
        | (simp[intOf];omega)
        | (refine ⟨i + 1, _, by omega, by go_num, ?_, aI bx 2 _, ?_, ?_, ?_, ?_, ?_⟩
           · rw[← my.out]
             exact O.chg (ay w4 ⟨Q, 2, none⟩ _) λk Y e => (O.ne_cells bx δ) (by rw[Y, show k = Q from e])
           · exact ia.chg (ay w4 ⟨Q, 2, none⟩ _) λk Y e => (ia.ne_cells bx δ) (by rw[Y, show k = Q from e])
           · exact λr h => (bC r h).chg (ay w4 ⟨Q, 2, none⟩ _) λk Y e => ((bC r h).ne_cells bx δ) (by rw[Y, show k = Q from e])
           · exact (ay w4 ⟨Q, 2, none⟩ _).heap m3 (λe => by have e : g + 1 = Q := e; omega)
           · exact ag.below av (ay w4 ⟨Q, 2, none⟩ _) av.size (λk e => by have e : k = Q := e; omega)
           · simp[World.setCell]; omega)
      ·obtain rfl:n=i:=ω;have o5:¬((n:Int)<n):=ω;rw[ih,<- HI.out]at hX;have ic:(prog.info? 165).map (·.size)=some 3:=(by kernel_rfl);have m4:(#[N n,N n,X]:Array Value).all (·.oneCell')=true:=(by obtain⟨va,vc,rfl⟩:=hX.shape';rw[dQ];rfl);have cn:∀q,X.ownBlock=some q->Q+1<=q:=λq hq=>(hX.lt q hq).1;have a5:Ow (wr.setRow (g+1) #[N n,N n,X]) (Q+1) eB X IV:=hX.chg (bh wr (g+1) _) λq hq=>(by have:=cn q hq;show ¬q=g+1;omega);have m5:Fr w (wr.setRow (g+1) #[N n,N n,X]):=ag.below I (bh wr (g+1) _) I.size (λq hq=>by rw[hq];omega);have z0:=fk wr (g+1) 0 _ #[N n,N n,X] _ _ G;have z1:=fk wr (g+1) 1 _ #[N n,N n,X] _ _ G;have z2:=fk wr (g+1) 2 _ #[N n,N n,X] _ _ G;clear hX o m;go_wp2_with (first | (refine dM rfl 165 (.tmp 18) rfl Q rfl 165 #[N n,N n,X] (0,0) _ cv uAF rfl ic ?_) | (refine bB rfl 165 (.tmp 2) (.tmp 204) rfl (g+1) #[N n,N n,X] rfl rfl 165 _ G ic rfl m4 ?_));exact aT (by simp[results,results209,go_sem, *]) rfl ⟨_,rfl,a5.rebase ω,m5⟩
