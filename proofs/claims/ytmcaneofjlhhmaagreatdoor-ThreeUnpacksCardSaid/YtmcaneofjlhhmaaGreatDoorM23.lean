/- Lemmas. -/
import Derived.Test.YtmcaneofjlhhmaaGreatDoorM10
import Derived.Test.YtmcaneofjlhhmaaGreatDoorM22
set_option linter.all false
set_option maxHeartbeats 8000000
set_option maxRecDepth 100000
namespace Go.Proofs
open RowKit Fk Tryz
def ub(q:Nat × Nat × Nat):Value:=.tuple #[.int .i64 (if q.2.2=0 then(q.1:Int)else -1),.int .i64 (q.2.2:Int)]
def Fa(B base a:Nat)(v lv cv:Value)(d r:U0)(w:World)(hc:ii w B base v (aZ r) a)(hl:r.length<=1000000)(F:ao w eB lv d)(hv:ao w eU cv (dD d))(bq:df d=true)(ai:∀c∈d,c.toNat<=15)(hn:d.length<=300):Calls prog 221 #[.agg #[lv,cv],.pointer (some ⟨B,0,none⟩)] w λe w'=>e=.returned (ub (aK d r a))/\ii w' B base v (aZ r) (aK d r a).2.1/\ag (λb=>b=B) w w':=by
 have hL:=kT r;have eq:=hc.le;have HZ:=ad (λs h=>Lv d r a s h);have HD:=ad (λs F Q=>Lz d r a s bq ai F Q);have HH:=ad (λs F h=>LH d r a s F h);have HM:=ad (λh=>LF d r a h);have bv:=ad (λs h1 G=>Ob d r a s h1 G);have bx:=ad (λs h1 G=>Oa d r a s bq ai h1 G);have cu:=ad (λs h=>jq d s h);have cz:=ad (λs h=>yt d s h);have c3:=ad (λs h=>Ea d s h);have b0:=ad (jT d);have b2:=ad (λk=>jt r a k);have c4:=ad ai;obtain⟨R,U,rfl,_⟩:=F.shape;obtain⟨V,Z,b3,_⟩:=hv.shape;rw[jT]at b3;subst b3;have K:Fr w (w.alloc (.cells #[.slice R d.length U,.slice V d.length Z] 288)):=(Fr.refl w).alloc _;have b4:(w.alloc (.cells #[.slice R d.length U,.slice V d.length Z] 288)).heap[w.heap.size]?=some (.cells #[.slice R d.length U,.slice V d.length Z] 288 (0,0)):=aD _ _ _ rfl;have hC:=hc.fr K;have c5:=ad (F.fr K);have c6:=ad (hv.fr K);have c7:Hid (lL d r a 0=false):=rfl;have b5:=ad (λk W (h:Fr w W) hk=>zf B base a k r W (hc.f.fr h) hl hk);have b6:Hid (∀k,Fk.aF r a k<2^k):=b2.out;generalize aK d r a=GS,lL d r a=BS,jP d (Fk.aF r a 15) (cX r a)=HK at *;clear hc F hv ai b2;go_in;go_upto_region 1 with fail;generalize w.alloc (.cells #[.slice R d.length U,.slice V d.length Z] 288)=W1 at *;generalize w.heap.size=g at *;go_wp2;go_loopw [6,7] (λpv sv wr=>∃(s:Nat) (o:Bool),s<=d.length/\sv=N s/\pv=.bool o/\Hid (BS s=o)/\Hid (∀i,i<s->HK i=false)/\Qt W1 wr) (λ_ sv _=>d.length-(intOf sv).toNat);·exact⟨0,false,ax _,rfl,rfl,c7.out,λi h=>absurd h (np _),Qt.refl _⟩
 ·
  obtain⟨s,o,er,rfl,rfl,L,HA,p⟩:=hrel;have d0:wr.cell? ⟨g,0,none⟩=some (.slice R d.length U):=(by rw[aG (p.fr.heap b4)];rfl);have d1:wr.cell? ⟨g,1,none⟩=some (.slice V d.length Z):=(by rw[aG (p.fr.heap b4)];rfl);by_cases A:s<d.length
  ·obtain⟨b,cC,cp,cE,c0⟩:=sl c5.out s A;cases cE;have a8:s<(dD d).length:=(by rw[b0.out];exact A);obtain⟨b1,cL,ev,b7,M⟩:=c6.out.cell1 (λn=>Value.int .u16 (n:Int)) rfl s a8;rw[b0.out]at b7;cases b7;have b9:=cu.out s A;have bC:=cz.out s A;have e0:=c3.out s a8;have bG:=c4.out _ (co A);have a9:=ad (HZ.out s);have ab:=ad (HD.out s A);have aC:=ad (HH.out s A);have al:=ad (bv.out s);have am:=ad (bx.out s A);have ap:Hid (HK s=false->∀i,i<s+1->HK i=false):=λh i hi=>by
    rcases Nat.lt_succ_iff_lt_or_eq.1 hi with G | G;·exact HA.out i G
    ·rw[G];exact h
   rw[b9]at a9 ab aC al am;rw[bC]at ab am;replace c0:=p.fr.cell (show W1.cell? ⟨b,cC+s,none⟩=some (.int .u8 ((d[s].toNat:Nat):Int))from c0);replace M:=p.fr.cell (show W1.cell? ⟨b1,cL+s,none⟩=some (.int .u16 ((dD d)[s]:Int))from M);generalize (dD d)[s]=q at *;generalize d[s].toNat=n at *;have bL:=ad (λW (h:Fr w W)=>b5.out n W h ω);have e3:=b6.out n;have e4:2^n<=2^15:=dn ω bG;have i1:(s:Int)<d.length:=ω;have i2:(0:Int)<=s:=ω;have e6:=aA (n:Int) ω;have e7:=cW (q:Int) ω;clear b9 bC HZ HD HH bv bx b5 b6 HA a8;by_cases Q:n=0
   ·subst Q;have D:Hid (BS (s+1)=o):=(al.out ω ω).trans L.out;have I:=ad (ap.out (a9.out rfl));go_wp2;go_roundw;·exact⟨s+1,o,ω,γ,rfl,D.out,I.out,p⟩
    ·exact μ
   ·have hz:¬(n:Int)=0:=ω;have az:=ad (bL.out wr (K.trans p.fr));generalize cR:Fk.aF r a n=x at *;generalize cT:min n (8*r.length-a)=m at *;have ba:Hid (¬(m=n/\x=q)->HK s=false):=λh=>by
     cases e:HK s with
     | false=>rfl
     | true=>exact absurd ((ab.out Q).1 e) h
    by_cases hm:m=n
    ·have da:(m:Int)=n:=ω;by_cases hx:x=q;·have a0:=ad (aC.out ((ab.out Q).2 ⟨hm,hx⟩));have db:(x:Int)=q:=ω;have hw:=aA ((a:Int)+n) ω;have dc:Hid (a+n<=(aZ r).length):=(by show _<=_;omega);go_wp2_with fail;apply az.z;rintro e w5 ⟨rfl,z⟩;have J:=p.trans z;have e1:=z.fr.cell d1;have e2:=z.fr.cell M;have O:=hC.fr J.fr;have y1:w5.cell? ⟨B,1,none⟩=some (N a):=(by rw[aG O.h];rfl);have z1:=aB O.h 1;have bS:=ay w5 ⟨B,1,none⟩ (.int .i64 ((a:Int)+n));have dd:=aI O.h 1 (.int .i64 ((a:Int)+n));have dj:=O.o.ne_cells O.h δ;have dk:=O.o.chg bS (λi hi e=>dj (by rw[hi,show i=B from e]));have a1:ag (λb=>b=B) w (w5.setCell ⟨B,1,none⟩ (.int .i64 ((a:Int)+n))):=((K.trans J.fr).chg _).trans bS λ_ _ h=>h;go_wp2;go_ret2;rw[a0.out];exact⟨rfl,⟨dd,dk,dc.out⟩,a1⟩
     ·have D:Hid (BS (s+1)=o):=(al.out bG ω).trans L.out;have I:=ad (ap.out (ba.out (λh=>hx h.2)));have db:¬(x:Int)=q:=ω;have j1:¬(m:Int)<n:=ω;go_wp2_with fail;apply az.z;rintro e w5 ⟨rfl,z⟩;have J:=p.trans z;have e1:=z.fr.cell d1;have e2:=z.fr.cell M;go_wp2;go_roundw;·exact⟨s+1,o,ω,γ,rfl,D.out,I.out,J⟩
      ·exact μ
    ·have fa:m<n:=ω;have D:Hid (BS (s+1)=(o || decide (x / 2^(n-m)=q / 2^(n-m)))):=(by show _=_;have:=am.out ω;rw[show 8*r.length-a=m by omega,L.out]at this;exact this);have I:=ad (ap.out (ba.out (λh=>hm h.1)));obtain⟨X,bT,cb,cf,ch⟩:∃X:Nat->Nat,X 0=x/\(∀i,X i / 2=X (i+1))/\X (n-m)=x / 2^(n-m)/\∀i,X i<=x:=⟨λi=>x / 2^i,σ,λi=>Dj x i,rfl,λi=>il _ _⟩;obtain⟨Y,ci,cj,ck,cl⟩:∃Y:Nat->Nat,Y 0=q/\(∀i,Y i / 2=Y (i+1))/\Y (n-m)=q / 2^(n-m)/\∀i,Y i<=q:=⟨λi=>q / 2^i,σ,λi=>Dj q i,rfl,λi=>il _ _⟩;rw[<- cf,<- ck]at D;have HX:=ad (And.intro cb ch);have HY:=ad (And.intro cj cl);have da:¬(m:Int)=n:=ω;have j1:(m:Int)<n:=ω;have ds:=ad bT;have dv:=ad ci;clear aC ab al am a9 ap bL L ba hm cR cT bT cb cf ch ci cj ck cl;go_wp2_with fail;apply az.z;rintro e w5 ⟨rfl,z⟩;have J:=p.trans z;have e1:=z.fr.cell d1;have e2:=z.fr.cell M;clear az d0 d1 c0 M;go_wp2;go_loopw [9,11,12] (λxv wv kv wx=>∃i:Nat,i<=n-m/\xv=.int .u64 (X i:Int)/\wv=.int .u64 (Y i:Int)/\kv=N (m+i)/\Qt W1 wx) (λ_ _ kv _=>n-(intOf kv).toNat);·exact⟨0,ax _,by rw[ds.out],by rw[dv.out],rfl,J⟩
     ·
      clear e1 e2 J;obtain⟨i,hi,rfl,rfl,rfl,a2⟩:=hrel;have fb:=HX.out.2 i;have fc:=HY.out.2 i;by_cases fe:m+i<n
      ·have fh:=HX.out.1 i;have fl:=HY.out.1 i;have k1:((m+i:Nat):Int)<n:=ω;have t1:(X i:Int).tdiv 2=(X (i+1):Int):=(by rw[pE ω];omega);have t2:(Y i:Int).tdiv 2=(Y (i+1):Int):=(by rw[pE ω];omega);have t3:IntKind.u64.wrap (X (i+1):Int)=(X (i+1):Int):=cW _ ω;have t4:IntKind.u64.wrap (Y (i+1):Int)=(Y (i+1):Int):=cW _ ω;go_wp2;go_roundw;·exact⟨i+1,ω,rfl,rfl,γ,a2⟩
       ·exact μ
      ·obtain rfl:i=n-m:=ω
       cases o with
       | true=>
        go_wp2;go_roundw;·exact⟨s+1,true,ω,γ,rfl,by show _=_;rw[D.out];rfl,I.out,a2⟩
        ·exact μ
       | false=>
        by_cases he:X (n-m)=Y (n-m)
        ·have bf:Hid (BS (s+1)=true):=ad (by rw[D.out,bz he];rfl);go_wp2;go_roundw;·exact⟨s+1,true,ω,γ,rfl,bf.out,I.out,a2⟩
         ·exact μ
        ·have eb:¬(X (n-m):Int)=Y (n-m):=ω;have bf:Hid (BS (s+1)=false):=ad (by rw[D.out,bw he];rfl);go_wp2;go_roundw;·exact⟨s+1,false,ω,γ,iG Value.bool (mz.2 eb),bf.out,I.out,a2⟩
         ·exact μ
  ·obtain rfl:s=d.length:=ω;have a0:=ad (HM.out HA.out);have ec:Hid (o=true->GS=(0,a,1)):=λh=>(by rw[a0.out,L.out,h];rfl);have ef:Hid (o=false->GS=(0,a,7)):=λh=>(by rw[a0.out,L.out,h];rfl);have i1:¬(d.length:Int)<d.length:=ω;have cr:=hC.fr p.fr;have a1:=(K.trans p.fr).chg (λb=>b=B)
   cases o with
   | true=>have bk:=ad (ec.out rfl);go_wp2;go_ret2;rw[bk.out];exact⟨rfl,cr,a1⟩
   | false=>have bk:=ad (ef.out rfl);go_wp2;go_ret2;rw[bk.out];exact⟨rfl,cr,a1⟩
