/- Lemmas for ThreeTurned. -/
import Derived.Test.YtndbpldeabnkbaaGreatDoorM09
import Derived.Test.YtndbpldeabnkbaaGreatDoorM11
import Derived.Test.YtndbpldeabnkbaaGreatDoorM34
set_option linter.all false
set_option maxHeartbeats 8000000
set_option maxRecDepth 100000
namespace Go.Fk
abbrev sHQb:=@List.ext_getElem?
abbrev zp:=@Int.tmod_eq_emod_of_nonneg
abbrev ww:=@List.replicate_zero
abbrev uh:=@Nat.not_lt_zero
abbrev JU:=@Nat.and_two_pow_sub_one_eq_mod
abbrev zm:=@Go.IntKind.wrap_u64
abbrev zq:=@Bool.eq_iff_iff
end Go.Fk
namespace Go.Proofs.YtndbpldeabnkbaaGreatDoor
open Go.RowKit Go.Fk
def Px:jn 256 (λy=>(y ||| 128) == 128+y%128)=true:=by decide +kernel
def Pu(x:Nat):bits .or .u8 ((x:Int)%256) 128=((UInt8.ofNat (128+x%128)).toNat:Int):=by
 have h:(x%256) ||| 128=128+(x%256)%128:=beq_iff_eq.1 (jT 256 _ Px (x%256) ω);rw[show(x:Int)%256=((x%256:Nat):Int) by omega,show(128:Int)=((128:Nat):Int)from rfl,Fe (x%256) 128 ω ω,h,jp];omega
def yA(x:Nat)(h:x<256):(#[Value.int .u8 (x:Int)]:Array Value).toList=eB.cells [UInt8.ofNat x]:=by
 have e:(x:Int)=((UInt8.ofNat x).toNat:Int):=by rw[jp];omega
 rw[e];rfl
def rf(x:Nat)(F:x<18446744073709551616)(w:World):Calls Tryz.prog 65 #[.int .u64 (x:Int)] w λe w'=>∃v,e=.returned v/\Ow w' w.heap.size eB v (ao x)/\Fr w w':=by
 have G:=cJ x F;generalize I:ao x=R at *;have L:=ad G;go_in;go_wp2;go_loopw [0,3] (λz M wr=>∃(y:Nat) (o:Z0),z=.int .u64 (y:Int)/\y<18446744073709551616/\Ow wr w.heap.size eB M o/\Hid (R=o++ao y)/\Fr w wr) (λz _ _=>(intOf z).toNat);case atStart=>exact⟨x,[],rfl,F,Ow.nil,by show _=_;rw[I];rfl,Fr.refl w⟩
 case round=>
  obtain⟨y,o,rfl,V,m,A,d⟩:=hrel;have X:o.length<=10:=(by have O:=L.out;rw[A.out,am]at O;omega);have J:o.length+1<=2147483648:=ω;clear G I;by_cases K:y<128;·have D:Hid (R=o++[UInt8.ofNat y]):=ad (by rw[A.out,ve y K]);have Q:=ad (yA y ω);have U:¬(128:Int)<=y:=ω;generalize UInt8.ofNat y=c at *;go_wp2_with (at_builtin;refine cW eB rfl (.tmp 14) (.tmp 17) 30 rfl Tryz.underlying30 w.heap.size rfl m [c] _ _ _ Q.out rfl rfl J d.size ?_);intro v' w4 h;go_wp2;go_ret;exact⟨_,rfl,by rw[D.out];exact h.own,h.below m d (al _) d.size⟩
  ·have D:Hid (R=o++[UInt8.ofNat (128+y%128)]++ao (y / 128)):=(by show _=_;rw[A.out,AP y K];simp);have Y:=Pu y;have U:(128:Int)<=y:=ω;generalize UInt8.ofNat (128+y%128)=c at *;go_wp2_with (at_builtin;refine cW eB rfl (.tmp 6) (.tmp 10) 30 rfl Tryz.underlying30 w.heap.size rfl m [c] _ _ _ rfl rfl rfl J d.size ?_);intro v' w4 h;go_wp2;go_roundw;case rel=>exact⟨y / 128,o++[c],γ,ω,h.own,D,h.below m d (al _) d.size⟩
   case measure=>exact μ
def Ji(s:Z0)(F:s.length<=1000000000)(w:World):Calls Tryz.prog 106 #[S s] w λe w'=>∃v,e=.returned v/\Ow w' w.heap.size eB v (ci s)/\Fr w w':=by
 have o:=ad (rf s.length ω);have z:=cJ s.length ω;have A:(ao s.length).length+s.length<=2147483648:=ω
 have D:Hid (ci s=ao s.length++s):=rfl;generalize ao s.length=G at *;clear z;go_in;go_wp2_with fail;refine(o.out _).mono ?_;rintro e I ⟨J,rfl,h,d⟩;go_wp2_with (at_builtin;refine Ku eB rfl (.tmp 6) (.tmp 7) 30 9 rfl Tryz.underlying30 Tryz.underlying9 rfl rfl rfl w.heap.size rfl h s rfl A d.size ?_);intro v' w4 m;go_wp2;go_ret;exact⟨_,rfl,by rw[D.out];exact m.own,m.below h d (al _) d.size⟩
def rm(v:Value)(h:List Hd)(d:List Z0)(w:World)(m:cO w aO eB v h d)(o:d.flatten.length<=1000000):Calls Tryz.prog 42 #[v] w λe w'=>∃v,e=.returned v/\Ow w' w.heap.size eB v d.flatten/\Fr w w':=by
 obtain⟨a,G,z,_⟩:=m.1.shape;have A:=ad (JO v h d w m o);subst z;go_in;go_wp2_with fail;refine A.out.mono ?_;rintro e I ⟨J,rfl,D,F⟩;go_wp2;go_ret;exact⟨_,rfl,D,F⟩
def VY(d:Nat)(o:d<18446744073709551616)(w:World):Calls Tryz.prog 69 #[.int .u64 (d:Int)] w λe w'=>e=.returned (.int .u64 (jF d:Nat))/\w=w':=by
 have key:bits BinOp.xor IntKind.u64 (IntKind.u64.wrap ((d:Int)*2)) (IntKind.u64.wrap (-((d:Int) / 9223372036854775808)))=((jF d:Nat):Int):=by
  rw[zm,zm];by_cases h:d<9223372036854775808;·rw[show(d:Int) / 9223372036854775808=0 by omega,show(d:Int)*2%18446744073709551616=((2*d:Nat):Int) by omega,show(-(0:Int))%18446744073709551616=((0:Nat):Int) by omega,bits_xor_u64_nat _ _ ω ω,ug];unfold jF;rw[af h]
  ·rw[show(d:Int) / 9223372036854775808=1 by omega,show(d:Int)*2%18446744073709551616=((2*d-18446744073709551616:Nat):Int) by omega,show(-(1:Int))%18446744073709551616=((2^64-1:Nat):Int) by omega,bits_xor_u64_nat _ _ ω ω,zC 64 _ ω];unfold jF;rw[ae h];omega
 have m:=ad key;clear key;go_in;go_wp2;go_ret;refine⟨?_,rfl⟩;rw[<- m.out];rfl
def Eg(x i:Nat):((x:Int) / 2^(8*i))=((x / 256^i:Nat):Int):=by
 rw[show(256:Nat)^i=2^(8*i) by rw[Nat.pow_mul]];simp
def yU(x n:Nat)(hn:1<=n)(ap:n<=7)(J:x<256^n)(av:x<18446744073709551616)(w:World):Calls Tryz.prog 41 #[.int .u64 (x:Int),N n] w λe w'=>∃v,e=.returned (.tuple #[v,.int .i64 0])/\Ow w' w.heap.size eB v (dz n x)/\Fr w w':=by
 have U:¬(n:Int)<1:=ω
 have D:¬(8:Int)<n:=ω
 have V:(n:Int)<8:=ω
 have X:(x:Int) / 2^(8*n)=0:=by rw[Eg,qx J];rfl
 have Y:=oQ eB rfl rfl 30 Tryz.underlying30 .i64 .i64 n ω;have K:∀W:World,Ow (W.alloc (.cells (madeCells #[eB.z] n) eB.e)) W.heap.size eB (.slice (some ⟨W.heap.size,0,none⟩) n n) (List.replicate n 0):=λW=>pT eB rfl rfl n ω W (al _);generalize F:dz n x=R;have d:Hid (R.length=n):=by show _=_;rw[<- F,qb]
 have Z:Hid (∀i (h:i<n) (D:i<R.length),R[i]=UInt8.ofNat (x / 256^i%256)):=by intro i h D;subst F;exact SB n x i h
 have aa:=ad K;clear J F K;go_in;go_wp2_with fail;have L:=aa.out w;have M:Fr w (w.alloc (.cells (madeCells #[eB.z] n) eB.e)):=(Fr.refl w).alloc _;generalize w.alloc (.cells (madeCells #[eB.z] n) eB.e)=w0 at *;generalize G:w.heap.size=g at *;clear U D V X Y;go_loopw [29] (λI wr=>∃i:Nat,i<=n/\I=N i/\Ow wr g eB (.slice (some ⟨g,0,none⟩) n n) (R.take i++List.replicate (n-i) 0)/\Below g w wr) (λI _=>n-(intOf I).toNat);case atStart=>exact⟨0,ar _,rfl,L,by rw[<- G];exact M⟩
 case round=>
  obtain⟨i,hi,rfl,m,o⟩:=hrel;clear L M;by_cases z:i<n
  ·have a1:(i:Int)<n:=ω;have a2:(0:Int)<=i:=ω;have O:(R.take i++List.replicate (n-i) (0:UInt8)).length=n:=vF R 0 n i d.out hi;obtain⟨c0,c1⟩:=m.cellAt Fk.u8 rfl i (by rw[O];exact z);have HR:Hid ((R.take i++List.replicate (n-i) (0:UInt8)).set i (UInt8.ofNat (x / 256^i%256))=R.take (i+1)++List.replicate (n-(i+1)) 0):=(by exact vE R 0 n i d.out z _ (Z.out i z (by have:=d.out;omega)));have Q:=m.set Fk.u8 rfl i (by rw[O];exact z) (UInt8.ofNat (x / 256^i%256)) (.int .u8 ((x / 256^i%256:Nat):Int)) (by show Value.int .u8 _=_;rw[jp];congr 1;omega);rw[HR.out]at Q;have a5:((x:Int) / 2^(8*i))%256=((x / 256^i%256:Nat):Int):=(by rw[Eg];omega);have aj:=ep o (al g) (by rw[<- G];exact(Below.size o)) (i:=i) (u:=.int .u8 ((x / 256^i%256:Nat):Int));go_wp2;go_roundw;case rel=>exact⟨i+1,ω,γ,Q,aj⟩
   case measure=>exact μ
  ·obtain rfl:i=n:=ω;have a6:¬((i:Int)<i):=ω;rw[fY,ww,dg,cw (by have:=d.out;omega)]at m;go_wp2_with fail;exact bFQb (v:=.tuple #[.slice (some ⟨g,0,none⟩) i i,.int .i64 0]) (by simp[results,Tryz.results41,go_sem, *]) rfl ⟨_,rfl,m,by rw[<- G]at o;exact o⟩
def cM(w:World)(base g:Nat)(T:TypeId)(rest:List Value)(d:Value)(l:Z0):Prop:=
 w.heap[g]?=some (.cells (d::N l.length::rest).toArray T (0,0))/\Ow w base eB d (cx l)/\g<base/\il l
def bw(g:Nat)(d e:Value)(w w':World):Prop:=ai (λk=>k=g\/d.ownBlock=some k) w w'/\∀b,e.ownBlock=some b->d.ownBlock=some b\/w.heap.size<=b
def bw.refl(g:Nat)(d:Value)(w:World):bw g d d w w:=⟨ai.refl _ w,λ_ h=>.inl h⟩
def bw.trans{g:Nat}{a b c:Value}{w d m:World}(h:bw g a b w d)(k:bw g b c d m):bw g a c w m:=
 ⟨h.1.trans k.1 (fun i o A => by
   rcases A with e | e
   · exact .inl e
   · rcases h.2 i e with z | z
     · exact .inr z
     · omega), λi o => by
   rcases k.2 i o with e | e
   · exact h.2 i e
   · exact .inr (ay h.1.size e)⟩
def bw.fr{g:Nat}{a b:Value}{w d m:World}(o:Fr w d)(h:bw g a b d m):bw g a b w m:=
 ⟨(o.chg _).trans h.1 (λ_ _ h=>h),λi z=>(h.2 i z).imp id λe=>ay o.size e⟩
def bw.frR{g:Nat}{a b:Value}{w d e:World}(h:bw g a b w d)(m:Fr d e):bw g a b w e:=
 ⟨h.1.trans (m.chg (λk=>k=g\/a.ownBlock=some k)) (λ_ _ h=>h),h.2⟩
def bw.heap{g:Nat}{a b:Value}{w w':World}(h:bw g a b w w'){k:Nat}{o:Obj}(d:w.heap[k]?=some o)(m:k≠g)(z:a.ownBlock≠some k):w'.heap[k]?=some o:=
 h.1.heap d (λe=>e.elim m z)
def V7(x:UInt8)(A:x=0\/x=1)(base g:Nat)(T:TypeId)(rest:List Value)(D:Value)(l:Z0)(w:World)(h:cM w base g T rest D l)(hl:l.length<=1000000000)(F:base<=w.heap.size):Calls Tryz.prog 160 #[.pointer (some ⟨g,0,none⟩),.int .u64 x.toNat] w λe w'=>e=.returned (.tuple #[])/\∃ak,cM w' base g T rest ak (l++[x])/\bw g D ak w w':=by
 obtain⟨d,G,X,Y⟩:=h;have e0:=ag d 0 rfl;have e1:=ag d 1 rfl;have z0:=a8 d 0;have z1:=a8 d 1;have I:=nt l;have Z:=Pj l x Y A;obtain⟨m,o⟩:∃m,m=(if l.length%8=0 then cx l++[0]else cx l):=⟨_,rfl⟩;have M:l.length / 8<m.length:=by
  rw[o];split;·rw[am,I];simp;omega
  ·rw[I];omega
 have a0:m[l.length / 8]=UInt8.ofNat (ig l (l.length / 8)):=by
  by_cases J:l.length%8=0;·simp only[o,af J];rw[jZ (by rw[I];omega)];rw[UU l _ ω];simp
  ·simp only[o,ae J];exact Pk l _ _
 rw[<- o]at Z;have bc:=ad Z;have HM:=ad o;have bd:=ad a0;have bf:=ad I;clear Z o a0 I;have b4:(0:Int)<=l.length:=ω
 have b5:m.length<=(cx l).length+1:=by rw[HM.out];split <;> simp
 obtain⟨b6,b7,bk⟩:=G.shape';go_in;go_upto_if 9 with fail;go_cut []from 8 to 18 (λwx=>∃O,wx.heap[g]?=some (.cells (O::N l.length::rest).toArray T (0,0))/\Ow wx base eB O m/\bw g D O w wx)
 case first=>
  by_cases J:l.length%8=0
  ·have bl:(l.length:Int)%8=0:=ω;have bm:(cx l).length+1<=2147483648:=(by rw[bf.out];omega);have ac:Hid (m=cx l++[0]):=ad (by rw[HM.out,af J]);subst bk;go_wp2_with (at_builtin;refine cW eB rfl (.tmp 14) (.tmp 15) 30 rfl Tryz.underlying30 base rfl G [0] _ _ _ rfl rfl rfl bm F ?_);intro v' w4 K;have aj:=K.chg'.heap d (λe=>by have:=(G.lt _ e).1;omega);have c0:=ag aj 0 rfl;have c1:=a8 aj 0;obtain⟨va,vc,hv⟩:=K.own.shape';rw[show(cx l++[(0:UInt8)]).length=(cx l).length+1 from by simp]at hv;subst hv;go_wp2;go_meet;refine⟨_,aJ aj 0 _,?_,⟨?_,?_⟩⟩;·rw[ac.out];exact eu K.own X
   ·exact(K.chg'.mono (λk _ h=>Or.inr h)).trans (a9 w4 ⟨g,0,none⟩ _) (λk _ h=>Or.inl h)
   ·exact K.fresh
  ·have bl:¬(l.length:Int)%8=0:=ω;have ac:Hid (m=cx l):=ad (by rw[HM.out,ae J]);go_wp2;go_meet;exact⟨_,d,by rw[ac.out];exact G,bw.refl g D w⟩
 case rest=>
  obtain⟨O,Q,R,a2⟩:=hcut;clear d G e0 e1 z0 z1;have bn:m≠[]:=(by intro e;rw[e]at M;simp at M);obtain⟨q,L,rfl,bL,bR,bT,ca⟩:=R.atHead bn;obtain⟨c2,c3⟩:=R.cellAt (λc=>Fk.u8 c) rfl (l.length / 8) M;have a3:=λu x A=>R.set (λc=>Fk.u8 c) rfl (l.length / 8) M x u A;rw[bd.out]at c2;have a4:=BJ Y (l.length / 8);generalize ig l (l.length / 8)=y at *;have e0:=ag Q 0 rfl;have e1:=ag Q 1 rfl;have i1:(l.length:Int) / 8<m.length:=ω;have i2:(0:Int)<=(l.length:Int) / 8:=ω;have i3:((l.length:Int) / 8).toNat=l.length / 8:=ω;have i4:(0:Int)<=7-(l.length:Int)%8:=ω;have i5:(7-(l.length:Int)%8).toNat=7-l.length%8:=ω;have cl:=nH x;have j1:=ax ((l.length:Int) / 8) ω;have j2:(l.length:Int).tmod 8=(l.length:Int)%8:=zp ω;have cp:=ax ((l.length:Int)%8) ω;have j3:=ax (7-(l.length:Int)%8) ω;have j4:IntKind.u8.wrap (x.toNat:Int)=x.toNat:=(by rw[sR];omega);have a5:x.toNat*2^(7-l.length%8)<256:=by
   have h1:x.toNat<=1:=(by rcases A with rfl | rfl <;> decide);have U:2^(7-l.length%8)<=2^7:=fp ω ω
   calc x.toNat * 2^(7-l.length%8) ≤ 1 * 2^7 := bH h1 U
    _<256:=δ
  have k1:IntKind.u8.wrap ((x.toNat:Int)*2^(7-l.length%8))=((x.toNat*2^(7-l.length%8):Nat):Int):=(by rw[sR];have e:((x.toNat*2^(7-l.length%8):Nat):Int)=(x.toNat:Int)*2^(7-l.length%8):=σ;rw[<- e];omega);have bu:y ||| x.toNat*2^(7-l.length%8)<256:=zf (n:=8) a4 a5;generalize x.toNat*2^(7-l.length%8)=S at *;have k2:bits .or .u8 ((y:Int)%256) (S:Int)=((y ||| S:Nat):Int):=(by rw[show(y:Int)%256=y by omega];exact Fe y S a4 a5);have a6:=a3 (.int .u8 ((y ||| S:Nat):Int)) (UInt8.ofNat (y ||| S)) (sd _ bu).symm;clear a3;generalize y ||| S=z at *;have bx:q≠g:=ω;have V:(wc.setCell ⟨q,l.length / 8,none⟩ (.int .u8 (z:Int))).heap[g]?=some (.cells (.slice (some ⟨q,0,none⟩) m.length L::N l.length::rest).toArray T (0,0)):=by rw[oA _ _ _ _ (by simpa using λe=>bx e.symm)];exact Q
  have a7:bw g D (.slice (some ⟨q,0,none⟩) m.length L) w (wc.setCell ⟨q,l.length / 8,none⟩ (.int .u8 (z:Int))):=
   a2.trans ⟨(a9 wc _ _).mono (λk _ h=>Or.inr (by rw[h];rfl)),λb F=>Or.inl F⟩
  have d1:(wc.setCell ⟨q,l.length / 8,none⟩ (.int .u8 (z:Int))).cell? ⟨g,1,none⟩=some (N l.length):=(by rw[aK V];rfl);have d2:=a8 V 1;have b0:=ad a7;have b1:=ad a6;have b2:=ad V;clear a7 a6 V a2 R Q;go_upto_region 2 with fail;go_still_tail 22,(by kernel_rfl);change wpList _ _ _ _ _ wc.drew;go_wp2;go_end0;refine⟨rfl,.slice (some ⟨q,0,none⟩) m.length L,⟨?_,?_,X,Y.app (by intro c hc;rw[ow]at hc;rw[hc];exact A)⟩,?_⟩;·have U:=aJ b2.out 1 (.int .i64 ((l.length:Int)+1));rw[List.setIfInBounds_toArray]at U;have e:(N (l++[x]).length:Value)=.int .i64 ((l.length:Int)+1):=(by rw[am];rfl);rw[e];exact U
  ·rw[bc.out];exact(eu b1.out X).drew
  ·exact(b0.out.trans (b:=.slice (some ⟨q,0,none⟩) m.length L) (c:=.slice (some ⟨q,0,none⟩) m.length L) ⟨(a9 _ _ _).mono (λk _ h=>Or.inl h),λb F=>Or.inl F⟩).frR (Fr.drew (Fr.refl _))
def yL(y:Nat)(h:y<18446744073709551616):bits .and .u64 (y:Int) 1=((y%2:Nat):Int):=by
 show IntKind.u64.wrap ((BitVec.ofInt 64 (y:Int) &&& BitVec.ofInt 64 ((1:Nat):Int)).toNat:Int)=_;rw[wJ,fV 64 y ω,fV 64 1 ω,Nat.and_one_is_mod];simp only[IntKind.wrap,IntKind.bits,IntKind.signed];simp;omega
def BO(b:Nat)(A:b<=1)(base g:Nat)(T:TypeId)(rest:List Value)(d:Value)(l:Z0)(w:World)(h:cM w base g T rest d l)(o:l.length<=1000000000)(z:base<=w.heap.size):Calls Tryz.prog 160 #[.pointer (some ⟨g,0,none⟩),.int .u64 (b:Int)] w λe w'=>e=.returned (.tuple #[])/\∃m,cM w' base g T rest m (l++[UInt8.ofNat b])/\bw g d m w w':=by
 have e:((UInt8.ofNat b).toNat:Int)=(b:Int):=by rw[jp];omega
 rw[<- e];refine V7 (UInt8.ofNat b) ?_ base g T rest d l w h o z;have:b=0\/b=1:=ω
 rcases this with rfl | rfl <;> simp
def cM.drew{w:World}{base g:Nat}{T:TypeId}{rest:List Value}{d:Value}{l:Z0}(h:cM w base g T rest d l):cM w.drew base g T rest d l:=⟨h.1,h.2.1.drew,h.2.2⟩
def Nh(x n:Nat)(h:x<2^n):(x:Int) / 2^n=0:=by
 have e:(x:Int) / 2^n=((x / 2^n:Nat):Int):=σ
 rw[e,qx h];rfl
def yD(x n:Nat)(R:n<=64)(z:x<2^n)(base g:Nat)(T:TypeId)(rest:List Value)(o:Value)(l:Z0)(w:World)(h:cM w base g T rest o l)(hl:l.length+n<=1000000000)(U:base<=w.heap.size):Calls Tryz.prog 116 #[.pointer (some ⟨g,0,none⟩),.int .u64 (x:Int),N n] w λe w'=>e=.returned (.int .i64 0)/\∃d,cM w' base g T rest d (l++bP x n)/\bw g o d w w':=by
 have V:x<18446744073709551616:=by
  calc x < 2^n := z
   _<=2^64:=fp ω R
 have X:=Nh x n z;have Y:=ad (λb I W m d (Z:cM W base g T rest d m) (h2:m.length<=1000000000) (h3:base<=W.heap.size)=>BO b I base g T rest d m W Z h2 h3);have a5:(0:Int)<=n:=ω
 have a6:(n:Int)<=64:=ω
 have a7:=ax ((n:Int)-1) ω;have d1:decide ((n:Int)<0)=false:=σ
 have d2:decide ((64:Int)<n)=false:=by simp;omega
 have hc:decide ((n:Int)<64)=true\/decide ((n:Int)<64)=false:=by cases decide ((n:Int)<64) <;> simp
 rcases hc with d3 | d3
 all_goals
  go_in;go_wp2;go_loopw [7] (λA wr=>∃(j:Nat) (d:Value) (m:Z0),j<=n/\A=.int .i64 ((j:Int)-1)/\cM wr base g T rest d m/\bw g o d w wr/\m.length<=1000000000-j/\Hid (l++bP x n=m++bP x j)) (λA _=>(intOf A+1).toNat);case atStart=>exact⟨n,o,l,al _,rfl,h,bw.refl g o w,ω,rfl⟩
  case round=>
   clear h;obtain⟨j,d,m,hj,rfl,J,D,bc,F⟩:=hrel;rcases kE j with rfl | hp;·have G:Hid (l++bP x n=m):=ad (by rw[F.out,bP,dg]);go_wp2;go_ret;exact⟨rfl,d,by rw[G.out];exact J,D⟩
   ·obtain⟨i,rfl⟩:∃i,j=i+1:=⟨j-1,ω⟩;have K:((i+1:Nat):Int)-1=(i:Int):=ω;rw[K];have bf:=ax ((i:Int)-1) ω;have bk:(0:Int)<=i:=ω;have L:x / 2^i<18446744073709551616:=Nat.lt_of_le_of_lt (kF _ _) V;have ak:=ad (yL (x / 2^i) L);have M:(x:Int) / 2^i=((x / 2^i:Nat):Int):=σ;have ap:x / 2^i%2<=1:=ω;have G:Hid (l++bP x n=(m++[UInt8.ofNat (x / 2^i%2)])++bP x i):=(by show _=_;rw[F.out,bP];simp);have HC:=ad (Y.out (x / 2^i%2) ap wr.drew m d J.drew ω (ay U D.1.size));clear K F;generalize x / 2^i=y at *;have HY:=ad M;clear M X z;have I:bits .and .u64 ((x:Int) / 2^i) 1=((y%2:Nat):Int):=(by rw[HY.out];exact ak.out);clear L;generalize y%2=b at *;go_upto_region 6 with fail;go_still_tail 7,(by kernel_rfl);change wpList _ _ _ _ _ wr.drew;generalize O:wr.drew=WD at *;have a1:=ad O;clear O;go_wp2_with fail;refine HC.out.mono ?_;rintro e w1 ⟨rfl,a2,a3,Q⟩;go_wp2;go_roundw;case rel=>exact⟨i,a2,_,ω,rfl,a3,by rw[<- a1.out]at Q;exact(D.frR (Fr.drew (Fr.refl wr))).trans Q,by rw[am];simp;omega,G⟩
    case measure=>simp[intOf]
def IR(base g:Nat)(T:TypeId)(rest:List Value)(d:Value)(l:Z0)(w:World)(h:cM w base g T rest d l)(F:l.length<=7999992):Calls Tryz.prog 118 #[.pointer (some ⟨g,0,none⟩)] w λe w'=>∃v,e=.returned v/\Ow w' w.heap.size eB v (cx l)/\Fr w w':=by
 obtain⟨o,m,G,I⟩:=h;have J:=ag o 0 rfl;have z:=ad (lE d (cx l) w m.see (by rw[nt];omega));obtain⟨K,L,rfl⟩:=m.shape';go_in;go_wp2_with fail;refine z.out.mono ?_;rintro e M ⟨O,rfl,A,D⟩;go_wp2;go_ret;exact⟨_,rfl,A,D⟩
def Vb(n:Nat)(Y:n<=100000)(base g:Nat)(T:TypeId)(rest:List Value)(o:Value)(l:Z0)(w:World)(h:cM w base g T rest o l)(Z:l.length+n+1<=1000000000)(R:base<=w.heap.size):Calls Tryz.prog 117 #[.pointer (some ⟨g,0,none⟩),N n] w λe w'=>e=.returned (.int .i64 0)/\∃d,cM w' base g T rest d (l++lp n)/\bw g o d w w':=by
 have U:=ad (λW m d (z:cM W base g T rest d m) (A:m.length<=1000000000) (D:base<=W.heap.size)=>BO 0 ω base g T rest d m W z A D);have V:=ad (λW m d (z:cM W base g T rest d m) (A:m.length<=1000000000) (D:base<=W.heap.size)=>BO 1 ω base g T rest d m W z A D);have d1:decide ((n:Int)<0)=false:=σ
 have d2:decide ((100000:Int)<n)=false:=by simp;omega
 have d3:¬(100000:Int)<n:=ω
 go_in;go_wp2;go_loopw [16] (λF wr=>∃(i:Nat) (d:Value),i<=n/\F=N i/\cM wr base g T rest d (l++List.replicate i 0)/\bw g o d w wr) (λF _=>n-(intOf F).toNat);case atStart=>exact⟨0,o,ar _,rfl,by simpa using h,bw.refl g o w⟩
 case round=>
  clear h;obtain⟨i,d,hi,rfl,M,G⟩:=hrel;have O:base<=wr.heap.size:=ay R G.1.size;have Q:(l++List.replicate i (0:UInt8)).length<=1000000000:=(by simp;omega);by_cases ak:i<n
  ·have ap:(i:Int)<n:=ω;have I:Hid (l++List.replicate (i+1) (0:UInt8)=(l++List.replicate i 0)++[UInt8.ofNat 0]):=ad (by rw[List.replicate_succ',bG];rfl);generalize l++List.replicate i (0:UInt8)=m at *;go_wp2_with fail;refine(U.out wr m d M Q O).mono ?_;rintro e X ⟨rfl,J,K,L⟩;go_wp2;go_roundw;case rel=>exact⟨i+1,J,ω,γ,by rw[I.out];exact K,G.trans L⟩
   case measure=>exact μ
  ·obtain rfl:i=n:=ω;have av:¬((i:Int)<i):=ω;have I:Hid (l++lp i=(l++List.replicate i 0)++[UInt8.ofNat 1]):=(by show _=_;unfold lp;rw[bG];rfl);generalize l++List.replicate i (0:UInt8)=m at *;go_wp2_with fail;refine(V.out wr m d M Q O).mono ?_;rintro e X ⟨rfl,J,K,L⟩;go_wp2;go_ret;exact⟨rfl,J,by rw[I.out];exact K,G.trans L⟩
def Y6(w:World)(base g:Nat)(T:TypeId)(d:Value)(l:Z0):Prop:=w.heap[g]?=some (.cells #[d] T (0,0))/\Ow w base eB d l/\g<base/\il l
def Y0(x k:Nat):Z0:=(List.range k).map λi=>UInt8.ofNat (x / 2^i%2)
def Pf(l:Z0)(q:Nat):Nat->Nat
 | 0=>0
 | t+1=>2*Pf l q t+dA l (8*q+t)
def tF{w:World}{v:Value}{l:List Nat}(h:ah w eJ v l)(k:Nat)(o:k<l.length):∃b d m,v=.slice (some ⟨b,d,none⟩) l.length m/\w.cell? ⟨b,d+k,none⟩=some (N l[k]):=by
 obtain⟨b,d,m,rfl,D,F,z⟩:=h.cells (by intro e;simp[e]at o);have A:=z k o 0 δ _ rfl;exact⟨b,d,m,rfl,by simpa [eJ] using A⟩
def NN(d:Nat)(v:Value)(l:List Nat)(w:World)(F:ah w eJ v l):Calls Tryz.prog 113 #[N d,v] w λe w'=>e=.returned (.bool (et d 0 l))/\Fr w w':=by
 obtain⟨a,V,rfl,X,K,Y⟩:=F.shape;unfold maxLen at K;go_in;go_wp2;go_loopw [5,10] (λL D wr=>∃k h:Nat,k<=l.length/\D=N k/\L=.int .i64 ((h:Int)-1)/\Hid (et d 0 l=et d h (l.drop k))/\Fr w wr) (λ_ D _=>l.length-(intOf D).toNat);case atStart=>exact⟨0,0,ar _,rfl,rfl,rfl,Fr.refl w⟩
 case round=>
  obtain⟨k,h,Z,rfl,rfl,m,A⟩:=hrel;by_cases G:k<l.length
  ·obtain⟨b,aa,ab,M,c0⟩:=tF (F.fr A) k G;have z:=ad (EC d h l k G);generalize l[k]=x at *;cases M;have i1:(0:Int)<=k:=ω;have i2:(k:Int)<l.length:=ω;by_cases I:h<=x
   ·have O:decide ((x:Int)<=(h:Int)-1)=false:=(by simp;omega);have Q:¬(x:Int)<=(h:Int)-1:=ω;by_cases J:x<d;·have R:decide ((d:Int)<=x)=false:=(by simp;omega);have U:decide (d<=x)=false:=(by simp;omega);have o:Hid (et d 0 l=et d (x+1) (l.drop (k+1))):=ad (by rw[m.out,z.out,bp I,bp J];rfl);clear m z;go_wp2_with fail;exact⟨⟨k+1,x+1,ω,γ,by rw[show(((x+1:Nat):Int)-1)=(x:Int)from by omega],o.out,A⟩,by simp[intOf];omega⟩
    ·have R:decide ((d:Int)<=x)=true:=bp ω;have U:(d:Int)<=x:=ω;have o:Hid (et d 0 l=false):=(by show _=_;rw[m.out,z.out,br J];simp);clear m z;go_wp2;go_ret;exact⟨by rw[o.out];rfl,A⟩
   ·have O:decide ((x:Int)<=(h:Int)-1)=true:=(by simp;omega);have Q:(x:Int)<=(h:Int)-1:=ω;have o:Hid (et d 0 l=false):=(by show _=_;rw[m.out,z.out,br I];simp);clear m z;go_wp2;go_ret;exact⟨by rw[o.out];rfl,A⟩
  ·obtain rfl:k=l.length:=ω;have ap:¬((l.length:Int)<l.length):=ω;have o:Hid (et d 0 l=true):=ad (by rw[m.out,nL,et]);go_wp2;go_ret;exact⟨by rw[o.out];rfl,A⟩
def Al(k m:Nat)(d:1<=k)(h:k+m<=255)(w:World):Calls Tryz.prog 81 #[N k,N m] w λe w'=>e=.returned (.bool true)/\w=w':=by
 have o:(1:Int)<=k:=ω
 have z:(0:Int)<=m:=ω
 have A:(k:Int)<=255:=ω
 have D:(m:Int)<=255:=ω
 have F:(k:Int)+m<=255:=ω
 go_in;go_wp2;go_ret;exact⟨rfl,rfl⟩
def JR(L:Nat)(d:List Hd):Prop:=∀i (h:i<d.length),d[i].n=L
def BY{w:World}{v:Value}{d:List Hd}{m:List Z0}{L:Nat}(o:cO w aO eB v d m)(D:∀p∈m,p.length=L):JR L d:=by
 intro i h;have z:i<m.length:=by rw[<- o.2.1];exact h
 obtain⟨a,F,A,_⟩:=(o.2.2 i h z).shape;have e:=D _ (bJ z);generalize d[i]=x at *;obtain⟨G,I,J⟩:=x;simp only[Hd.v,ir]at A;rw[<- e];exact A.2.1
def BZ(v:Value)(d:List Hd)(L:Nat)(w:World)(m:ah w aO v d)(z:JR L d):Calls Tryz.prog 82 #[v] w λe w'=>e=.returned (.bool true)/\w=w':=by
 obtain⟨a,O,rfl,Q,I,R⟩:=m.shape;unfold maxLen at I;go_in;go_wp2_with fail;go_loop [7] (λo=>∃i:Nat,i<=d.length/\o=N i) (λo=>d.length-(intOf o).toNat);case atStart=>exact⟨0,ar _,rfl⟩
 case round=>
  obtain⟨i,U,rfl⟩:=hrel;by_cases A:i<d.length
  ·obtain⟨b,V,c,J,K⟩:=m.cell1 (λ(h:Hd)=>h.v) rfl i A;obtain⟨X,Y,c2,D,M⟩:=m.cell1 (λ(h:Hd)=>h.v) rfl 0 ω;have F:=z i A;have G:=z 0 ω;generalize d[i]=x at *;generalize d[0]'ω=y at *;obtain⟨Z,xn,xc⟩:=x;obtain⟨ya,yn,yc⟩:=y;simp only at F G;subst F G;cases J;simp only[ir,mU,Addr.mk.injEq,mr]at D;obtain⟨⟨rfl,rfl⟩,_,rfl⟩:=D;simp only[Hd.v,dq]at K M;have i1:(0:Int)<=i:=ω;have i2:(i:Int)<d.length:=ω;have i3:(0:Int)<d.length:=ω;go_wp2_with fail;go_round;case rel=>exact⟨i+1,ω,γ⟩
   case measure=>exact μ
  ·obtain rfl:i=d.length:=ω;have a1:¬((d.length:Int)<d.length):=ω;go_wp2;go_ret;exact⟨rfl,rfl⟩
def cP(w:World):Prop:=∀i,i<16->w.cell? ⟨0,i,none⟩=some (.int .u32 ((lq i:Nat):Int))
def cP.fr{w w':World}(h:cP w)(d:Fr w w'):cP w':=λi e=>d.cell (h i e)
abbrev U4(n:Nat):Value:=.int .u32 (n:Int)
def IZ(x:Nat)(h:x<4294967296):bits .and .u32 (x:Int) 15=((x%16:Nat):Int):=by
 have:=VL x 15 h ω;have e:=JU x 4;rw[e]at this;exact this
def Fy(x:Nat)(h:x<4294967296):bits .xor .u32 IntKind.u32.max (x:Int)=((4294967295-x:Nat):Int):=by
 have e:=zC 32 x h;rw[Nat.xor_comm]at e;have:=sQ 4294967295 x ω h;rw[show(4294967295:Nat) ^^^ x=4294967295-x from e]at this;exact this
def Xk(x:Nat)(hx:x<4294967296)(v:Value)(D:List Hd)(d:List Z0)(w:World)(G:cO w aO eB v D d)(O:cP w):Calls Tryz.prog 109 #[U4 x,v] w λe w'=>e=.returned (U4 (4294967295-ez (4294967295-x) d.flatten))/\w=w':=by
 obtain⟨a,bf,bk,bl,ak,bm⟩:=G.1.shape;unfold maxLen at ak;have bn:=Fy x hx;have Q:=ad G.2.1;go_in;go_wp2_with fail;go_loop [5,14] (λJ K=>∃k:Nat,k<=D.length/\K=N k/\J=U4 (ez (4294967295-x) (d.take k).flatten)) (λ_ K=>D.length-(intOf K).toNat);case atStart=>exact⟨0,ar _,rfl,rfl⟩
 case round=>
  obtain⟨k,hk,rfl,rfl⟩:=hrel;have L:ez (4294967295-x) (d.take k).flatten<4294967296:=B7 _ _ ω;by_cases R:k<D.length
  ·obtain⟨b,bu,bv,ap,e0⟩:=G.1.cell1 (λ(h:Hd)=>h.v) rfl k R;have U:k<d.length:=(by have:=Q.out;omega);have I:=G.2.2 k R U;have HF:Hid (ez (4294967295-x) (d.take (k+1)).flatten=ez (ez (4294967295-x) (d.take k).flatten) d[k]):=ad (by rw[rV d k U,Uh]);obtain⟨a2,c2,hh,_⟩:=I.shape;generalize D[k]=h at *;generalize d[k]=p at *;generalize ez (4294967295-x) (d.take k).flatten=Y at *;obtain⟨ha,a3,b1⟩:=h;obtain⟨rfl,rfl,rfl⟩:=hh;simp only[Hd.v]at e0 I;cases ap;have A:(0:Int)<=k:=ω;have F:(k:Int)<D.length:=ω;have a4:=I.le;unfold maxLen at a4;go_wp2_with fail;go_loop [5,20] (λJ M=>∃j:Nat,j<=p.length/\M=N j/\J=U4 (ez Y (p.take j))) (λ_ M=>p.length-(intOf M).toNat);case atStart=>exact⟨0,ar _,rfl,rfl⟩
   case round=>
    obtain⟨j,hj,rfl,rfl⟩:=hrel;have V:ez Y (p.take j)<4294967296:=B7 _ _ L;by_cases X:j<p.length
    ·obtain⟨b2,b5,b6,a5,g0⟩:=I.cell1 (λc=>Fk.u8 c) rfl j X;have HZ:Hid (ez Y (p.take (j+1))=tV (ez Y (p.take j)) p[j].toNat):=H4 Y p j X;generalize p[j]=c at *;generalize ez Y (p.take j)=z at *;cases a5;have b8:=c.toNat_lt;have k1:=sQ z c.toNat V ω;have a7:z ^^^ c.toNat<2^32:=jV V ω;have HB:=ad (UT z c.toNat);generalize z ^^^ c.toNat=m at *;have k2:=IZ m a7;have Z:m%16<16:=ω;generalize m%16=A at *;have t1:=O A Z;have aa:=Dt A Z;have k3:bits .xor .u32 ((m:Int) / 16) ((lq A:Nat):Int)=(((m / 16) ^^^ lq A:Nat):Int):=(by rw[show(m:Int) / 16=((m / 16:Nat):Int) by omega];exact sQ (m / 16) (lq A) ω aa);have ba:(m / 16) ^^^ lq A<2^32:=jV ω aa;generalize (m / 16) ^^^ lq A=o at *;have k4:=IZ o ba;have ab:o%16<16:=ω;generalize o%16=F at *;have t2:=O F ab;have bb:=Dt F ab;have k5:bits .xor .u32 ((o:Int) / 16) ((lq F:Nat):Int)=(((o / 16) ^^^ lq F:Nat):Int):=(by rw[show(o:Int) / 16=((o / 16:Nat):Int) by omega];exact sQ (o / 16) (lq F) ω bb);have HE:Hid (ez Y (p.take (j+1))=o / 16 ^^^ lq F):=ad (by rw[HZ.out,HB.out]);go_wp2_with fail;go_round;case rel=>exact⟨j+1,ω,γ,by rw[HE.out]⟩
     case measure=>exact μ
    ·obtain rfl:j=p.length:=ω;have ca:¬((p.length:Int)<p.length):=ω;rw[dY,<- HF.out];go_wp2_with fail;go_round;case rel=>exact⟨k+1,ω,γ,rfl⟩
     case measure=>exact μ
  ·obtain rfl:k=D.length:=ω;rw[cw (by have:=Q.out;omega)]at L ⊢;have a3:=Fy _ L;generalize ac:ez (4294967295-x) d.flatten=Y at *;have HY:=ad ac;clear ac;go_wp2;go_ret;exact⟨by rw[HY.out];rfl,rfl⟩
def PE(w:World)(v:Value)(r:Hd)(p:Z0)(h:v=r.v)(m:ah w eB v p)(d:Array Value)(o:d=#[v]):cO (w.alloc (.cells d 30)) aO eB (.slice (some ⟨w.heap.size,0,none⟩) 1 1) [r] [p]:=by
 subst h o;refine⟨nm aO w [r] _ _ 1 rfl rfl (by simp[maxLen]),rfl,λi e z=>?_⟩;have:i=0:=by simp at e;exact e
 subst this;exact m.fr ((Fr.refl w).alloc _)
def Jn(v:Value)(p:Z0)(w:World)(d:ah w eB v p)(m:cP w):Calls Tryz.prog 68 #[v] w λe w'=>e=.returned (U4 (iK p))/\Fr w w':=by
 obtain⟨a,o,h,_⟩:=d.shape;have z:=PE w v ⟨a,p.length,o⟩ p h d #[v] rfl;subst h;have A:=ad (Xk 0 ω _ _ _ _ z (m.fr ((Fr.refl w).alloc _)));have D:Hid (4294967295-ez (4294967295-0) [p].flatten=iK p):=by show _=_;unfold iK;simp
 generalize 4294967295-ez (4294967295-0) [p].flatten=Y at *;go_in;go_wp2_with fail;refine A.out.mono ?_;rintro e F ⟨rfl,rfl⟩;go_wp2;go_ret;exact⟨by rw[<- D.out];rfl,(Fr.refl w).alloc _⟩
def ni(s:Nat):Z0:=[UInt8.ofNat (s%256),UInt8.ofNat (s / 256%256),UInt8.ofNat (s / 65536%256),UInt8.ofNat (s / 16777216%256)]
def Dr(s:Nat)(m:s<4294967296)(w:World):Calls Tryz.prog 67 #[U4 s] w λe w'=>∃v,e=.returned v/\Ow w' w.heap.size eB v (ni s)/\Fr w w':=by
 have d:∀W:World,Ow (W.alloc (.cells #[.int .u8 ((s:Int)%256),.int .u8 ((s:Int) / 256%256),.int .u8 ((s:Int) / 65536%256),.int .u8 ((s:Int) / 16777216)] 5)) W.heap.size eB (.slice (some ⟨W.heap.size,0,none⟩) 4 4) (ni s):=by intro W;refine nu eB W _ (ni s) 4 rfl (by simp[maxLen,ni]) (al _) ?_;rw[show(s:Int)%256=((s%256:Nat):Int) by omega,show(s:Int) / 256%256=((s / 256%256:Nat):Int) by omega,show(s:Int) / 65536%256=((s / 65536%256:Nat):Int) by omega,show(s:Int) / 16777216=((s / 16777216%256:Nat):Int) by omega];rw[sd _ ω,sd _ ω,sd _ ω,sd _ ω];rfl
 have h:=ad (d w);go_in;go_wp2;go_ret;exact⟨_,rfl,h.out,(Fr.refl w).alloc _⟩
def yO(v:Value)(p:Z0)(w:World)(d:ah w eB v p)(G:p.length<=1000000)(I:cP w):Calls Tryz.prog 36 #[v] w λe w'=>∃v',e=.returned v'/\Ow w' w.heap.size eB v' (au p)/\Fr w w':=by
 obtain⟨a,X,J,_⟩:=d.shape;have K:=ad (λW (h:ah W eB v p)=>lE v p W h G);have L:=ad (λW (h:ah W eB v p) (M:cP W)=>Jn v p W h M);have O:=ad (Dr (iK p) (zV p));have Q:Hid (au p=p++ni (iK p)):=rfl;generalize iK p=s at *;subst J;go_in;go_wp2_with fail;refine(K.out _ d).mono ?_;rintro e Y ⟨Z,rfl,R,m⟩;go_wp2_with fail;refine(L.out _ (d.fr m) (I.fr m)).mono ?_;rintro e w2 ⟨rfl,z⟩;go_wp2_with fail;refine(O.out _).mono ?_;rintro e w3 ⟨v3,rfl,U,A⟩;have D:=R.fr (z.trans A);have o:=(m.trans z).trans A;have V:p.length+(ni s).length<=2147483648:=by show _+4<=_;omega
 go_wp2_with (at_builtin;refine iJ eB rfl (.tmp 4) (.tmp 7) 30 rfl Tryz.underlying30 w.heap.size rfl D _ _ rfl U.see V o.size ?_);intro v4 w4 F;go_wp2;go_ret;exact⟨_,rfl,by rw[Q.out];exact F.own,F.below D o (al _) o.size⟩
def WU(x:Nat)(m:x<4294967296)(w:World):Calls Tryz.prog 190 #[U4 x] w λe w'=>e=.returned (U4 (d9 x))/\w=w':=by
 by_cases h:x%2=1;·have d:Hid (d9 x=(x / 2) ^^^ 3988292384):=(by show _=_;unfold d9;rw[af h]);have o:(x:Int)%2=1:=ω;have z:bits .xor .u32 ((x:Int) / 2) 3988292384=(((x / 2) ^^^ 3988292384:Nat):Int):=(by rw[show(x:Int) / 2=((x / 2:Nat):Int) by omega];exact sQ (x / 2) 3988292384 ω ω);go_in;go_wp2;go_ret;exact⟨by rw[d.out];rfl,rfl⟩
 ·have d:Hid (d9 x=x / 2):=(by show _=_;unfold d9;rw[ae h]);go_in;go_wp2;go_ret;exact⟨by rw[d.out];go_num,rfl⟩
def vO:Nat->Nat->Nat
 | 0,x=>x
 | n+1,x=>d9 (vO n x)
def Vv(n x:Nat)(h:x<4294967296):vO n x<4294967296:=by
 induction n with
 | zero=>exact h
 | succ n d=>exact mO _ d
def WO(x:Nat)(V:x<4294967296)(v:Value)(p:Z0)(w:World)(D:ah w eB v p):Calls Tryz.prog 149 #[U4 x,v] w λe w'=>e=.returned (U4 (4294967295-ez (4294967295-x) p))/\w=w':=by
 obtain⟨a,X,Z,aa,I,ab⟩:=D.shape;unfold maxLen at I;have J:(4294967295:Int)-x=((4294967295-x:Nat):Int):=ω
 have K:=ad J;go_in;go_wp2_with fail;go_loop [5,6] (λd h=>∃k:Nat,k<=p.length/\h=N k/\d=U4 (ez (4294967295-x) (p.take k))) (λ_ h=>p.length-(intOf h).toNat);case atStart=>exact⟨0,ar _,rfl,by first | rfl | (rw[K.out];rfl)⟩
 case round=>
  obtain⟨k,hk,rfl,rfl⟩:=hrel;have m:ez (4294967295-x) (p.take k)<4294967296:=B7 _ _ ω;by_cases F:k<p.length
  ·obtain⟨b,aj,ak,L,e0⟩:=D.cell1 (λc=>Fk.u8 c) rfl k F;have M:Hid (ez (4294967295-x) (p.take (k+1))=vO 8 (ez (4294967295-x) (p.take k) ^^^ p[k].toNat)):=H4 _ p k F;generalize p[k]=c at *;generalize ez (4294967295-x) (p.take k)=z at *;cases L;have av:=c.toNat_lt;have k1:=sQ z c.toNat m ω;have O:z ^^^ c.toNat<2^32:=jV m ω;generalize z ^^^ c.toNat=o at *;go_wp2_with fail;go_loop [5,7] (λd A=>∃j:Nat,j<=8/\A=N j/\d=U4 (vO j o)) (λ_ A=>8-(intOf A).toNat);case atStart=>exact⟨0,ω,rfl,rfl⟩
   case round=>
    obtain⟨j,hj,rfl,rfl⟩:=hrel;by_cases a2:j<8
    ·have Q:=ad (WU (vO j o) (Vv j o O));go_wp2_with fail;refine(Q.out _).mono ?_;rintro e w1 ⟨rfl,rfl⟩;go_wp2_with fail;go_round;case rel=>exact⟨j+1,ω,γ,rfl⟩
     case measure=>exact μ
    ·obtain rfl:j=8:=ω;rw[<- M.out];go_wp2_with fail;go_round;case rel=>exact⟨k+1,ω,γ,rfl⟩
     case measure=>exact μ
  ·obtain rfl:k=p.length:=ω;rw[dY]at m ⊢;generalize G:ez (4294967295-x) p=Y at *;have R:=ad G;clear G;have U:Hid ((4294967295:Int)-Y=((4294967295-Y:Nat):Int)):=(by show _=_;omega);go_wp2;go_ret;exact⟨by rw[R.out];first | rfl | (show Ending.returned (.int .u32 _)=_;rw[U.out]),rfl⟩
def Wx(v:Value)(p:Z0)(w:World)(d:ah w eB v p):Calls Tryz.prog 104 #[v] w λe w'=>e=.returned (U4 (iK p))/\w=w':=by
 obtain⟨a,z,h,_⟩:=d.shape;have m:=ad (WO 0 ω v p w d);have o:Hid (4294967295-ez (4294967295-0) p=iK p):=rfl;subst h;go_in;go_wp2_with fail;refine m.out.mono ?_;rintro e A ⟨rfl,rfl⟩;go_wp2;go_ret;exact⟨by rw[<- o.out];rfl,rfl⟩
def Ma(s:Nat):ni s=dz 4 s:=by
 simp only[ni,dz,uk]
def Jv(v:Value)(p:Z0)(w:World)(m:ah w eB v p)(hn:p.length<=1000000):Calls Tryz.prog 59 #[v] w λe w'=>∃v',e=.returned v'/\Ow w' w.heap.size eB v' (au p)/\Fr w w':=by
 obtain⟨a,ac,I,_⟩:=m.shape;have J:=ad (Wx v p w m);have K:Hid (au p=p++dz 4 (iK p)):=by show _=_;rw[<- Ma];rfl
 have L:=zV p;generalize iK p=s at *;subst I;have F:=nu eB w #[] [] 0 rfl (by simp[maxLen]) (al _);have M:=m.fr ((Fr.refl w).alloc (.cells #[] 5));have O:([]:Z0).length+p.length<=2147483648:=by simp;omega
 go_in;go_wp2_with fail;refine J.out.mono ?_;rintro e w1 ⟨rfl,rfl⟩;go_wp2_with (at_builtin;refine iJ eB rfl (.tmp 8) (.tmp 9) 30 rfl Tryz.underlying30 w.heap.size rfl F _ _ rfl M O σ ?_);intro v2 w2 d;have Q:=d.below F ((Fr.refl w).alloc _) (al _) σ;have R:=d.own;go_wp2;go_loopw [3,4,5] (λU V z wr=>∃(i y:Nat) (o:Z0),i<=4/\z=N i/\U=U4 y/\y<4294967296/\Ow wr w.heap.size eB V o/\o.length=p.length+i/\Hid (au p=o++dz (4-i) y)/\Fr w wr) (λ_ _ z _=>4-(intOf z).toNat);case atStart=>exact⟨0,s,p,ω,rfl,rfl,L,R,rfl,K.out,Q⟩
 case round=>
  obtain⟨i,y,o,hi,rfl,rfl,hy,A,X,G,h⟩:=hrel;by_cases a1:i<4
  ·have Y:4-i=(4-(i+1))+1:=ω;have D:Hid (au p=o++[UInt8.ofNat (y%256)]++dz (4-(i+1)) (y / 256)):=(by show _=_;rw[G.out,Y,dz];simp);have Z:Hid ((#[Value.int .u8 ((y:Int)%256)]:Array Value).toList=eB.cells [UInt8.ofNat (y%256)]):=(by have:=yA (y%256) ω;exact this);have aa:o.length+1<=2147483648:=ω;generalize UInt8.ofNat (y%256)=c at *;go_wp2_with (at_builtin;refine cW eB rfl (.tmp 15) (.tmp 19) 30 rfl Tryz.underlying30 w.heap.size rfl A [c] _ _ _ Z.out rfl rfl aa h.size ?_);intro v' w4 d;go_wp2;go_roundw;case rel=>exact⟨i+1,y / 256,o++[c],ω,γ,γ,ω,d.own,by rw[am,X];rfl,D,d.below A h (al _) h.size⟩
   case measure=>exact μ
  ·obtain rfl:i=4:=ω;have D:Hid (au p=o):=ad (by rw[G.out,fY,dz,dg]);go_wp2;go_ret;exact⟨_,rfl,by rw[D.out];exact A,h⟩
def UI(d:List Hd):aO.cells d=d.map Hd.v:=by
 induction d with
 | nil=>rfl
 | cons p d e=>show [p.v]++aO.cells d=_;rw[e];rfl
def qX{w:World}{v:Value}{l:Z0}(h:ah w eB v l):∃p:Hd,v=p.v:=by
 obtain⟨a,d,e,_⟩:=h.shape;exact⟨⟨a,_,d⟩,e⟩
def xQ(w:World)(m:Array Value)(T:TypeId)(d:List Hd)(e:List Z0)(n:Nat)(A:n=d.length)(D:m.toList=d.map Hd.v)(F:d.length=e.length)(G:d.length<=1000000)(h:∀i (o:i<d.length) (z:i<e.length),ah w eB d[i].v e[i]):cO (w.alloc (.cells m T)) aO eB (.slice (some ⟨w.heap.size,0,none⟩) n n) d e:=
 ⟨nm aO w d m T n A (by rw[D,UI]) (by unfold maxLen;omega),F,λi o z=>(h i o z).fr ((Fr.refl w).alloc _)⟩
def BX(h m:Value)(d lb:Z0)(W:World)(o:ah W eB h d)(z:ah W eB m lb)(K:d.length+lb.length<=1000000):Calls Tryz.prog 42 #[.slice (some ⟨W.heap.size,0,none⟩) 2 2] (W.alloc (.cells #[h,m] 30)) λe w'=>∃v,e=.returned v/\Ow w' W.heap.size eB v (d++lb)/\Fr W w':=by
 obtain⟨A,rfl⟩:=qX o;obtain⟨D,rfl⟩:=qX z;have F := xQ W #[A.v, D.v] 30 [A, D] [d, lb] 2 rfl rfl rfl (by simp) (fun i G F => by
   match i, G with
   | 0, _ => exact o
   | 1, _ => exact z)
 refine(rm _ _ _ _ F (by simp;omega)).mono ?_;rintro e w' ⟨v,rfl,I,J⟩;exact⟨v,rfl,by simpa using I.rebase (b:=W.heap.size) σ,((Fr.refl W).alloc _).trans J⟩
def BW(m o z:Value)(d lb h:Z0)(W:World)(A:ah W eB m d)(D:ah W eB o lb)(F:ah W eB z h)(Q:d.length+lb.length+h.length<=1000000):Calls Tryz.prog 42 #[.slice (some ⟨W.heap.size,0,none⟩) 3 3] (W.alloc (.cells #[m,o,z] 30)) λe w'=>∃v,e=.returned v/\Ow w' W.heap.size eB v (d++lb++h)/\Fr W w':=by
 obtain⟨G,rfl⟩:=qX A;obtain⟨I,rfl⟩:=qX D;obtain⟨J,rfl⟩:=qX F;have K := xQ W #[G.v, I.v, J.v] 30 [G, I, J] [d, lb, h] 3 rfl rfl rfl (by simp) (fun i L K => by
   match i, L with
   | 0, _ => exact A
   | 1, _ => exact D
   | 2, _ => exact F)
 refine(rm _ _ _ _ K (by simp;omega)).mono ?_;rintro e w' ⟨v,rfl,M,O⟩;exact⟨v,rfl,by simpa using M.rebase (b:=W.heap.size) σ,((Fr.refl W).alloc _).trans O⟩
def lM(d:List Nat)(e:Nat->Z0)(k:Nat):Z0:=((List.range k).map λi=>ao (d.getD i 0)++ao (e i).length).flatten
def OD(d:List Nat)(e:Nat->Z0)(k:Nat)(h:k<d.length):lM d e (k+1)=lM d e k++ao d[k]++ao (e k).length:=by
 unfold lM;rw[jr,eD,oz];simp[h]
def ej(d:List Nat)(e:Nat->Z0)(a b:Nat):Z0:=(((ao d.sum++ao d.length)++lM d e d.length)++ao a)++ao b
def pX(d:List Nat)(k:Nat):(d.take k).sum<=d.sum:=by
 conv=>rhs;rw[<- jC k d]
 rw[ot];omega
def AA(d:List Nat)(e:Nat->Z0)(b:Nat)(z:b<1000000)(h:∀k,(e k).length<=b)(o:∀x∈d,x<1000000)(k:Nat):(lM d e k).length<=k*20:=by
 unfold lM;rw[kR];refine ay (oB _ 20 _ λi _=>?_) ?_
 ·have A:=cJ (e i).length (by have:=h i;omega);have D:d.getD i 0<1000000:=by
   by_cases m:i<d.length;·simp only[bq,bj m];exact o _ (bJ m)
   ·simp[bq,iW (by omega:d.length<=i)]
  have F:=cJ (d.getD i 0) ω;rw[am];omega
 ·rw[jY];exact al _
def IQ(o:dV)(w:World):Calls Tryz.prog 31 #[fq o] w λe w'=>e=.returned (.int .i64 (if jN o then 0 else 9))/\Fr w w':=by
 have d:=ad (λW=>Xi ⟨o.b,o.plain,o.bu,0,0,0⟩ ⟨rfl,rfl,rfl⟩ W);have h:Hid ((if jN ⟨o.b,o.plain,o.bu,0,0,0⟩then(0:Int)else 9)=if jN o then 0 else 9):=rfl;rw[h.out]at d;generalize (if jN o then(0:Int)else 9)=R at *;go_in;go_wp2_with fail;refine(d.out _).mono ?_;rintro e z ⟨rfl,m⟩;go_wp2;go_ret;exact⟨rfl,((Fr.refl w).alloc _).trans m⟩
def aI{w:World}{v:Value}{l:List Nat}(h:ah w eJ v l)(k:Nat)(e:k<l.length):∃b d m,v=.slice (some ⟨b,d,none⟩) l.length m/\w.cell? ⟨b,d+k,none⟩=some (N l[k]):=h.cell1 N rfl k e
def rD(l:List Nat)(k:Nat)(h:k<l.length):(l.take (k+1)).sum=(l.take k).sum+l[k]:=by
 rw[f8 h,ot];simp
def Vd(v:Value)(l:List Nat)(w:World)(h:ah w eJ v l)(R:l.length<=1000000)(U:l.sum<=1000000000):Calls Tryz.prog 75 #[v] w λe w'=>e=.returned (N l.sum)/\w=w':=by
 have F:=ad (λk o=>aI h k o);have G:=ad (pX l);have I:=ad (rD l);have J:Hid ((l.take l.length).sum=l.sum):=by show _=_;rw[dY]
 obtain⟨V,X,z,Y,Z,aa⟩:=h.shape;go_in;go_wp2;go_loopw [3,8] (λK d wr=>∃k:Nat,k<=l.length/\d=N k/\K=N (l.take k).sum/\w=wr) (λ_ d _=>l.length-(intOf d).toNat);case atStart=>exact⟨0,ar _,rfl,σ,rfl⟩
 case round=>
  obtain⟨k,o,rfl,rfl,rfl⟩:=hrel;by_cases A:k<l.length;·obtain⟨b,ab,ac,z,c0⟩:=F.out k A;cases z;have L:=ad (I.out k A);have h2:=G.out (k+1);generalize M:(l.take (k+1)).sum=m2 at *;have O:=ad M;generalize (l.take k).sum=m at *;generalize l[k]=x at *;have Q:=L.out;have D:=ad Q;have hw:IntKind.i64.wrap ((m:Int)+x)=(m:Int)+x:=ax _ (by have:=D.out;omega);go_wp2_with fail;exact⟨⟨k+1,ω,γ,by rw[O.out,D.out];go_num,by first | rfl | trivial⟩,by simp[intOf];omega⟩
  ·obtain rfl:k=l.length:=ω;rw[J.out];go_wp2;go_ret;exact⟨rfl,rfl⟩
def lw(d:Nat->Z0)(k:Nat):List Nat:=(List.range k).map λi=>(d i).length
def TY(g:Nat)(cv sv:Value)(d:List Nat)(o:Nat->Z0)(a b:Nat)(w:World)(hg:w.heap[g]?=some (.cells #[cv,sv,N a,N b] 74 (0,0)))(hc:ah w eJ cv d)(hs:ah w eJ sv (lw o d.length))
  (hl:d.length<=60) (hsum:d.sum<=60) (hfr:∀k,(o k).length<=6025) (ha:a<=1000000) (hb:b<=1000000) :
  Calls Tryz.prog 40 #[.pointer (some ⟨g,0,none⟩)] w λe w'=>∃u,e=.returned u/\Ow w' w.heap.size eB u (ej d o a b)/\Fr w w':=by
 have V:=ad (λn (h:n<18446744073709551616) W=>rf n h W);have b6:=ad (λW (h:ah W eJ cv d)=>Vd cv d W h ω ω);have bd:∀x∈d,x<=60:=λx hx=>by obtain⟨i,hi,rfl⟩:=pC.1 hx;have h1:=pX d (i+1);rw[rD d i hi]at h1;omega
 have c3:=ad bd;have b7:=ad (λk=>AA d o 6025 ω hfr (λx hx=>by have:=bd x hx;omega) k);have c5:=ad (λk h=>OD d o k h);have HD:Hid (ej d o a b=(((ao d.sum++ao d.length)++lM d o d.length)++ao a)++ao b):=rfl;have c6:Hid (lM d o 0=[]):=rfl;have c7:=ad hfr;have c8:Hid (∀k (h:k<d.length) (h2:k<(lw o d.length).length),(lw o d.length)[k]=(o k).length):=λk h h2=>by simp[lw]
 have bl:(lw o d.length).length=d.length:=by simp[lw]
 have HC:=ad (λW (h:Fr w W) k hk=>aI (hc.fr h) k hk);have HS:=ad (λW (h:Fr w W) k hk=>aI (hs.fr h) k hk);have cF:=ad (λW (h:Fr w W)=>hc.fr h);have b8:=ad bl;obtain⟨ca,cc,rfl,_⟩:=hc.shape;obtain⟨X,sc,bB,_⟩:=hs.shape;rw[bl]at bB;subst bB;have HG:=ad (λW (h:Fr w W)=>h.heap hg);clear hc hs bd hfr bl;generalize hT:ej d o a b=T at *;clear hT;have x0:=ag hg 0 rfl;have bm:=cJ d.sum ω;have bn:=cJ d.length ω;have L:=ad (V.out d.sum ω);have Y:=ad (V.out d.length ω);have bR:=λW va vb X sb=>BX va vb (ao d.sum) (ao d.length) W X sb ω;have M:=ad bR;have bT:Hid (∀m,m=(ao d.sum++ao d.length)->m.length<=20):=λm h=>by rw[h,am];omega
 clear bR;generalize d.sum=S0 at *;have bs:IntKind.u64.wrap (S0:Int)=(S0:Int):=dFQb _ ω;have el:IntKind.u64.wrap (d.length:Int)=(d.length:Int):=dFQb _ ω;go_in;go_upto_region 1 with fail
 go_region_held3 (λw' => w'.cell? ⟨g, 0, none⟩ = some (.slice ca d.length cc))
  (first | go_keep)
  ((first
    | (go_at_call 75; refine (b6.out _ (cF.out _ (Fr.refl w).drew)).mono ?_; rintro e w1 ⟨rfl, rfl⟩)
    | (go_at_call_of 65 (Value.int IntKind.u64 (S0 : Int)); refine (L.out _).mono ?_; rintro e w2 ⟨v2, rfl, F, A⟩; obtain ⟨p2, z2, ap⟩ := F.shape'; subst ap; have O := A.cell x0)
    | (go_at_call_of 65 (Value.int IntKind.u64 (d.length : Int)); refine (Y.out _).mono ?_; rintro e w3 ⟨v3, rfl, G, z⟩; obtain ⟨p3, z3, av⟩ := G.shape'; subst av; have Q := z.cell O)
    | (go_at_call 42; refine (M.out _ _ _ (F.fr z).see G.see).mono ?_; rintro e w4 ⟨v4, rfl, J, D⟩; have u0 := D.cell Q)))
 have ck:Fr w w4:=(Fr.refl w).drew.trans (A.trans (z.trans D));obtain⟨R,bv⟩:∃R,R=ao S0++ao d.length:=⟨_,rfl⟩;have er:=bT.out R bv;rw[<- bv]at J HD;have Z:Ow w4 w.heap.size eB v4 R:=by exact J.rebase (by have:=((Fr.refl w).drew.trans (A.trans z)).size;exact this)
 clear bv bT M L Y b6 F G J A z D x0 O Q bm bn bs;have c4:w4.cell? ⟨g,0,none⟩=some (.slice ca d.length cc):=u0;clear u0;obtain⟨p4,z4,rfl⟩:=Z.shape';go_wp2;go_loopw [3,27] (λov iv wr=>∃k:Nat,k<=d.length/\iv=N k/\Ow wr w.heap.size eB ov (R++lM d o k)/\Fr w wr) (λ_ iv _=>d.length-(intOf iv).toNat);case atStart=>exact⟨0,ar _,rfl,by rw[c6.out,dg];exact Z,ck⟩
 case round=>
  clear Z ck c4;obtain⟨k,hk,rfl,U,hf⟩:=hrel;have aC:=HG.out wr hf;have cl:=b7.out k;by_cases a2:k<d.length
  ·have x1:=ag aC 1 rfl;obtain⟨b1,ev,e0,dc,d1⟩:=HC.out wr hf k a2;cases dc;obtain⟨b2,cp,e1,cq,d2⟩:=HS.out wr hf k (by rw[b8.out];exact a2);rw[b8.out]at cq;cases cq;rw[c8.out k a2]at d2;have e2:=c3.out _ (bJ a2);have e3:=c7.out k;have HN:=ad (c5.out k a2);have ds:=b7.out (k+1);generalize ct:lM d o (k+1)=q2 at *;have dv:=ad ct;clear ct;generalize lM d o k=q at *;generalize d[k]=x at *;generalize (o k).length=y at *;have L:=ad (V.out x ω);have Y:=ad (V.out y ω);have bm:=cJ x ω;have bn:=cJ y ω;have d0:k*20<=60*20:=bQ _ ω;obtain⟨I,K⟩:∃I,I=R++q:=⟨_,rfl⟩;rw[<- K]at U;have d3:I.length<=1300:=(by rw[K,am];omega);have d4:=ad K;have M:=ad (λW va vb vc X sb sc=>BW va vb vc I (ao x) (ao y) W X sb sc ω);clear K cl ds d0;have bs:IntKind.u64.wrap (x:Int)=(x:Int):=dFQb _ ω;have d5:IntKind.u64.wrap (y:Int)=(y:Int):=dFQb _ ω;have i1:(0:Int)<=k:=ω;have i2:(k:Int)<d.length:=ω;obtain⟨oa,oc,rfl⟩:=U.shape';go_upto_region 5 with fail
   go_region_held3 (λw' => w'.cell? ⟨g, 1, none⟩ = some (.slice (some ⟨b2, cp, none⟩) d.length sc) ∧ w'.cell? ⟨b2, cp + k, none⟩ = some (N y))
    (first | go_keep)
    ((first
      | (go_at_call_of 65 (Value.int IntKind.u64 (x : Int)); refine (L.out _).mono ?_; rintro e w2 ⟨v2, rfl, F, A⟩; obtain ⟨p2, z2, ap⟩ := F.shape'; subst ap; have O := A.cell x1; have y1 := A.cell d2)
      | (go_at_call_of 65 (Value.int IntKind.u64 (y : Int)); refine (Y.out _).mono ?_; rintro e w3 ⟨v3, rfl, G, z⟩; obtain ⟨p3, z3, av⟩ := G.shape'; subst av; have Q := z.cell O; have z1 := z.cell y1)
      | (go_at_call 42; refine (M.out _ _ _ _ (U.see.fr ((Fr.refl wr).drew.trans (A.trans z))) (F.fr z).see G.see).mono ?_; rintro e w4 ⟨v4, rfl, J, D⟩; have u0 := D.cell Q; have u1 := D.cell z1)))
   have aa:Fr w w3:=hf.trans ((Fr.refl wr).drew.trans (A.trans z));have dT:=aa.trans D;have Z:=J.rebase aa.size;obtain⟨p4,z4,rfl⟩:=Z.shape';clear x1 d1 d2 O y1 Q z1 u0 u1 F G J U A z D aa aC;go_wp2;go_roundw;case rel=>exact⟨k+1,ω,γ,by rw[dv.out,HN.out,<- bG,<- bG,<- d4.out];exact Z,dT⟩
   case measure=>exact μ
  ·obtain rfl:k=d.length:=ω;have e7:¬(d.length:Int)<d.length:=ω;have x2:=ag aC 2 rfl;have x3:=ag aC 3 rfl;obtain⟨I,K⟩:∃I,I=R++lM d o d.length:=⟨_,rfl⟩;rw[<- K]at U HD;have d3:I.length<=1300:=(by rw[K,am];have:d.length*20<=60*20:=bQ _ hl;omega);have L:=ad (V.out a ω);have Y:=ad (V.out b ω);have bm:=cJ a ω;have bn:=cJ b ω;have M:=ad (λW va vb vc X sb sc=>BW va vb vc I (ao a) (ao b) W X sb sc ω);rw[<- HD.out]at M;clear K cl;have bs:IntKind.u64.wrap (a:Int)=(a:Int):=dFQb _ ω;have d5:IntKind.u64.wrap (b:Int)=(b:Int):=dFQb _ ω;obtain⟨oa,oc,rfl⟩:=U.shape';go_upto_region 7 with fail
   go_region_held3 (λw' => w'.cell? ⟨g, 2, none⟩ = some (N a) ∧ w'.cell? ⟨g, 3, none⟩ = some (N b))
    (first | go_keep)
    ((first
      | (go_at_call 65; refine (L.out _).mono ?_; rintro e w2 ⟨v2, rfl, F, A⟩; obtain ⟨p2, z2, ap⟩ := F.shape'; subst ap; have O := A.cell x2; have y1 := A.cell x3; clear L)
      | (go_at_call 65; refine (Y.out _).mono ?_; rintro e w3 ⟨v3, rfl, G, z⟩; obtain ⟨p3, z3, av⟩ := G.shape'; subst av; have Q := z.cell O; have z1 := z.cell y1)
      | (go_at_call 42; refine (M.out _ _ _ _ (U.see.fr ((Fr.refl wr).drew.trans (A.trans z))) (F.fr z).see G.see).mono ?_; rintro e w4 ⟨v4, rfl, J, D⟩; have u0 := D.cell Q; have u1 := D.cell z1)))
   have aa:Fr w w3:=hf.trans ((Fr.refl wr).drew.trans (A.trans z));go_wp2;go_ret;exact⟨_,rfl,J.rebase aa.size,aa.trans D⟩
def XY(v:Value)(m:List Hd)(d:List Z0)(w:World)(z:cO w aO eB v m d)(hn:d.flatten.length<=100000000):Calls Tryz.prog 76 #[v] w λe w'=>∃v,e=.returned v/\Ow w' w.heap.size eB v d.flatten/\Fr w w':=by
 obtain⟨a,a7,ab,aC,ac,A⟩:=z.1.shape;unfold maxLen at ac;subst ab;have U:=z.2.1;have D:=ad U;have HN:=ad A;clear U A;have bb:d.length<=9223372036854775807:=by have:=D.out;omega
 go_in;go_wp2_with fail;go_loop [3,11] (λnv o=>∃k n:Nat,k<=m.length/\o=N k/\nv=N n/\Hid (n=(d.take k).flatten.length)) (λ_ o=>m.length-(intOf o).toNat);case atStart=>exact⟨0,0,ar _,rfl,rfl,rfl⟩
 case round=>
  obtain⟨k,n,hk,rfl,rfl,J⟩:=hrel;have bd:n<=100000000:=(by have h1:=pZ d k;have:=J.out;omega);by_cases F:k<m.length
  ·obtain⟨b,ak,ap,K,V⟩:=z.1.cell1 (λ(h:Hd)=>h.v) rfl k F;have G:k<d.length:=(by have:=D.out;omega);have Q:=z.2.2 k F G;have L:Hid (n+d[k].length=(d.take (k+1)).flatten.length):=ad (by rw[rV d k G,am,<- J.out]);have R:=pZ d (k+1);have av:n+d[k].length<=100000000:=(by have:=L.out;omega);obtain⟨a2,c2,X,_⟩:=Q.shape;generalize m[k]=h at *;obtain⟨ha,M,bm⟩:=h;simp only[Hd.v,ir]at X;obtain⟨rfl,A,rfl⟩:=X;rw[<- A]at L av;clear A R;simp only[Hd.v]at V;cases K;have i1:(0:Int)<=k:=ω;have i2:(k:Int)<m.length:=ω;have bn:=ax ((n:Int)+M) ω;have bs:¬(n:Int)+M<0:=ω;go_wp2_with fail;go_round;case rel=>exact⟨k+1,n+M,ω,γ,γ,L⟩
   case measure=>exact μ
  ·have L:Hid (n=d.flatten.length):=(by have:=J.out;rw[cw (by have:=D.out;omega)]at this;exact this);clear J;go_wp2_with fail;refine(JN n _ ω).mono ?_;rintro e w1 ⟨v1,rfl,Y,a3⟩;go_wp2;go_loopw [6,27] (λov o wr=>∃k:Nat,k<=m.length/\o=N k/\Ow wr w.heap.size eB ov (d.take k).flatten/\Fr w wr) (λ_ o _=>m.length-(intOf o).toNat);case atStart=>exact⟨0,ar _,rfl,Y,a3⟩
   case round=>
    clear Y;obtain⟨k,bx,rfl,O,I⟩:=hrel;by_cases F:k<m.length
    ·have K:=z.fr I;obtain⟨b,ak,ap,a5,V⟩:=K.1.cell1 (λ(h:Hd)=>h.v) rfl k F;have G:k<d.length:=(by have:=D.out;omega);have Q:=K.2.2 k F G;have Z:Hid ((d.take (k+1)).flatten=(d.take k).flatten++d[k]):=rV d k G;have R:=pZ d (k+1);rw[Z.out,am]at R;generalize m[k]=h at *;cases a5;have i1:(0:Int)<=k:=ω;have i2:(k:Int)<m.length:=ω;go_wp2_with (at_builtin;refine iJ eB rfl (.tmp 31) (.tmp 32) 30 rfl Tryz.underlying30 w.heap.size rfl O _ _ rfl Q ?c1 I.size ?_);case c1=>omega
     intro v' w4 aa;go_wp2;go_roundw;case rel=>exact⟨k+1,ω,γ,by rw[Z.out];exact aa.own,aa.below O I (al _) I.size⟩
     case measure=>exact μ
    ·rw[cw (by have:=D.out;omega)]at O;go_wp2;go_ret;exact⟨_,rfl,O,I⟩
def XZ(v:Value)(h:List Hd)(d:List Z0)(w:World)(m:cO w aO eB v h d)(o:d.flatten.length<=100000000):Calls Tryz.prog 42 #[v] w λe w'=>∃v,e=.returned v/\Ow w' w.heap.size eB v d.flatten/\Fr w w':=by
 obtain⟨a,G,z,_⟩:=m.1.shape;have A:=ad (XY v h d w m o);subst z;go_in;go_wp2_with fail;refine A.out.mono ?_;rintro e I ⟨J,rfl,D,F⟩;go_wp2;go_ret;exact⟨_,rfl,D,F⟩
def VP(m o z:Value)(d lb h:Z0)(W:World)(A:ah W eB m d)(D:ah W eB o lb)(F:ah W eB z h)(Q:d.length+lb.length+h.length<=100000000):Calls Tryz.prog 42 #[.slice (some ⟨W.heap.size,0,none⟩) 3 3] (W.alloc (.cells #[m,o,z] 30)) λe w'=>∃v,e=.returned v/\Ow w' W.heap.size eB v (d++lb++h)/\Fr W w':=by
 obtain⟨G,rfl⟩:=qX A;obtain⟨I,rfl⟩:=qX D;obtain⟨J,rfl⟩:=qX F;have K := xQ W #[G.v, I.v, J.v] 30 [G, I, J] [d, lb, h] 3 rfl rfl rfl (by simp) (fun i L K => by
   match i, L with
   | 0, _ => exact A
   | 1, _ => exact D
   | 2, _ => exact F)
 refine(XZ _ _ _ _ K (by simp;omega)).mono ?_;rintro e w' ⟨v,rfl,M,O⟩;exact⟨v,rfl,by simpa using M.rebase (b:=W.heap.size) σ,((Fr.refl W).alloc _).trans O⟩
def yo(v:Value)(l:Z0)(w:World)(h:ah w eB v l):(convert 30 9 v).run Tryz.prog w=.ok (S l) w:=
 Ez eB w 30 9 Tryz.underlying30 (by kernel_rfl) Tryz.underlying9 rfl rfl h
def sk(d h:Value)(a b:Z0)(w:World)(m:ah w eB d a)(o:ah w eB h b):Calls Tryz.prog 13 #[d,h] w λe w'=>e=.returned (.bool (decide (a=b)))/\w=w':=by
 have D:=yo d a w m;have F:=yo h b w o;obtain⟨G,I,z,_⟩:=m.shape;obtain⟨J,K,A,_⟩:=o.shape;subst z A;clear m o;have L:(a == b)=decide (a=b):=by rw[zq];simp
 generalize decide (a=b)=q at *;go_in;go_wp2;go_ret;exact⟨rfl,rfl⟩
def Co(F G:Value)(a b:Z0)(w:World)(I:ah w eB F a)(J:ah w eB G b):Calls Tryz.prog 57 #[F,G] w λe w'=>e=.returned (.bool (decide (a=b)))/\Fr w w':=by
 obtain⟨aa,ca,ac,ba,aj,_⟩:=I.shape;obtain⟨ab,cb,ak,ap,av,_⟩:=J.shape;subst ac ak;unfold maxLen at aj av;generalize K:decide (a=b)=R;have A:=ad K;clear K;go_in;by_cases o:a.length=b.length
 ·have L:=ad o;rw[<- o];clear o ap;go_wp2;go_loopw [13] (λD wr=>∃i:Nat,i<=a.length/\D=N i/\Hid (∀j,j<i->a[j]?=b[j]?)/\Fr w wr) (λD _=>a.length-(intOf D).toNat);case atStart=>exact⟨0,ar _,rfl,λj h=>absurd h (uh j),Fr.refl w⟩
  case round=>
   obtain⟨i,hi,rfl,M,d⟩:=hrel;by_cases O:i<a.length
   ·have Q:i<b.length:=(by have:=L.out;omega);obtain⟨b1,a1,bf,a2,U⟩:=(I.fr d).cell1 Fk.u8 rfl i O;obtain⟨b2,a4,bk,a5,V⟩:=(J.fr d).cell1 Fk.u8 rfl i Q;have X:Hid (a[i]?=some a[i]):=bj O;have Y:Hid (b[i]?=some b[i]):=bj Q;generalize a[i]=x at *;generalize b[i]=y at *;have d1:wr.cell? ⟨b1,a1+i,none⟩=some (.int .u8 (x.toNat:Int)):=U;have d2:wr.cell? ⟨b2,a4+i,none⟩=some (.int .u8 (y.toNat:Int)):=V;clear U V;cases a2;cases a5;have i1:(0:Int)<=i:=ω;have i2:(i:Int)<a.length:=ω;by_cases z:x=y
    ·subst z;go_wp2;go_quiet (fail);go_wp2;go_roundw
     case rel => exact ⟨i + 1, by omega, by go_num, fun j hj => by
       by_cases e : j = i;·subst e; rw[X.out, Y.out]
       · exact M.out j ω, d.drewN _⟩
     case measure=>exact μ
    ·have hn:¬(x.toNat:Int)=y.toNat:=λe=>z (eP.1 ω);have m:Hid (R=false):=(by show _=_;rw[<- A.out];refine br λe=>z ?_;have Z:=X.out;rw[e,Y.out]at Z;exact(jU Z).symm);clear z;go_wp2;go_quiet (fail);go_wp2;go_ret;exact⟨by rw[m.out];rfl,d.drewN _⟩
   ·have m:Hid (R=true):=by
      show _=_;rw[<- A.out];refine bp (sHQb λj=>?_);by_cases hj:j<a.length;·exact M.out j ω
      ·rw[iW ω,iW (by have:=L.out;omega)]
    obtain rfl:i=a.length:=ω;have bv:¬((a.length:Int)<a.length):=ω;go_wp2;go_ret;exact⟨by rw[m.out];rfl,d⟩
 ·have m:Hid (R=false):=(by show _=_;rw[<- A.out];exact br λe=>o (by rw[e]));rw[m.out];have bx:¬(a.length:Int)=b.length:=ω;go_wp2;go_ret;exact⟨rfl,Fr.refl w⟩
def PG(l:Z0)(h:4<=l.length):bz l=decide (l.drop (l.length-4)=ni (iK (l.take (l.length-4)))):=by
 have e:au (l.take (l.length-4))=l.take (l.length-4)++ni (iK (l.take (l.length-4))):=rfl;unfold bz;rw[bp h,qA,e];generalize ni (iK (l.take (l.length-4)))=t;rw[zq,en,en];constructor;·intro d;have:=dp (List.drop (l.length-4)) d;rw[List.drop_append_of_le_length (by rw[aA];omega),uu (by rw[aA];omega),fJ]at this;exact this.symm
 ·intro d;rw[<- d,jC]
def uf(v:Value)(l:Z0)(w:World)(z:ah w eB v l)(hn:l.length<=1000000)(ht:cP w):Calls Tryz.prog 91 #[v] w λe w'=>∃u,e=.returned (.tuple #[u,.int .i64 (cK l:Int)])/\Ow w' w.heap.size eB u (bE l)/\Fr w w':=by
 obtain⟨a0,a4,rfl,a5,ac,_⟩:=z.shape;unfold maxLen at ac;by_cases M:l.length<4;·have D:bz l=false:=(by unfold bz;rw[br ω,Bool.false_and]);have d:Hid (cK l=1):=(by show _=_;unfold cK;rw[D];simp[M]);have o:Hid (bE l=[]):=(by show _=_;unfold bE;rw[D];simp);rw[o.out];have hw:=ax ((l.length:Int)-4) ω;have a6:(l.length:Int)-4<0:=ω;rw[d.out];clear D d o;go_in;go_wp2;go_ret2;exact⟨_,rfl,Ow.nil,Fr.refl w⟩
 ·obtain⟨n,F⟩:∃n,n=l.length-4:=⟨_,rfl⟩;have O:n<=l.length:=ω;obtain⟨f1,f2,ba,Q⟩:=lK eB 30 Tryz.underlying30 z n O;obtain⟨bb,G⟩:=jj eB 30 Tryz.underlying30 z n O;have I:=PG l ω;rw[<- F]at I;have hw:IntKind.i64.wrap ((l.length:Int)-4)=(n:Int):=(by rw[ax _ ω];omega);have bc:¬(n:Int)<0:=ω;have U:(l.take n).length=n:=(by rw[aA];omega);have V:=ad (λW (h:Fr w W)=>Jn _ (l.take n) W (G.fr h) (ht.fr h));have X:=ad (Dr (iK (l.take n)) (zV _));have J:=ad (λW v' (h:Fr w W) (h2:ah W eB v' (ni (iK (l.take n))))=>Co _ v' _ _ W (Q.fr h) h2);have ap:=ad (λW (h:Fr w W)=>lE _ (l.take n) W (G.fr h) (by rw[U];omega));have d:Hid (cK l=if bz l then 0 else 5):=(by show _=_;unfold cK;simp[M]);have o:Hid (bE l=if bz l then l.take n else []):=ad (by rw[F];rfl);rw[<- I]at J;rw[d.out,o.out];clear d o I z G Q U F;generalize l.length-n=m,l.take n=q,bz l=R,iK (l.take n)=s at *;go_in;go_wp2_with fail
  go_region_held3 (fun _ => True) (first | trivial | go_keep) ((first
    | (go_at_call 68; refine (V.out _ (Fr.refl w).drew).mono ?_; rintro e w1 ⟨rfl, K⟩)
    | (go_at_call 67; refine (X.out _).mono ?_; rintro e w2 ⟨v2, rfl, Y, L⟩)
    | (go_at_call 57; refine (J.out _ _ (((Fr.refl w).drew.trans K).trans L) Y.see).mono ?_; rintro e w3 ⟨rfl, Z⟩)))
  have A:Fr w w3:=(((Fr.refl w).drew.trans K).trans L).trans Z;clear Y K L Z V X J;cases R;·go_wp2;go_ret2;exact⟨_,rfl,Ow.nil,A⟩
  ·go_wp2_with fail;refine(ap.out _ A).mono ?_;rintro e w4 ⟨v4,rfl,aa,a1⟩;obtain⟨p4,z4,rfl⟩:=aa.shape';go_wp2;go_ret2;exact⟨_,rfl,aa.rebase A.size,A.trans a1⟩
def FE(l:Z0)(h:l.length<=4):eE l=(0,1):=by unfold eE;rw[af h]
def FG(l:Z0)(h:¬l.length<=4)(d:¬l.take 4=[70,73,82,75]):eE l=(0,3):=by unfold eE;rw[ae h,ae d]
def FD(l:Z0)(h:¬l.length<=4)(d:l.take 4=[70,73,82,75])(e:1<=(l.getD 4 0).toNat/\(l.getD 4 0).toNat<=3):eE l=((l.getD 4 0).toNat,0):=by unfold eE;rw[ae h,af d,af e]
def FF(l:Z0)(h:¬l.length<=4)(d:l.take 4=[70,73,82,75])(e:¬(1<=(l.getD 4 0).toNat/\(l.getD 4 0).toNat<=3)):eE l=(0,4):=by unfold eE;rw[ae h,af d,ae e]
def Xh(v:Value)(l:Z0)(w:World)(z:ah w eB v l):Calls Tryz.prog 103 #[v] w λe w'=>e=.returned (.tuple #[N (eE l).1,.int .i64 ((eE l).2:Int)])/\Fr w w':=by
 obtain⟨X,Y,rfl,Z,K,_⟩:=z.shape;unfold maxLen at K;by_cases o:l.length<=4;·have L:(l.length:Int)<=4:=ω;have m:=ad (FE l o);rw[m.out];go_in;go_wp2;go_ret2;exact⟨rfl,Fr.refl w⟩
 ·have L:¬(l.length:Int)<=4:=ω;obtain⟨aa,G⟩:=jj eB 30 Tryz.underlying30 z 4 ω;have A:=λW (h:Fr w W)=>yo _ (l.take 4) W (G.fr h);have ab:=ad A;have M:=A w (Fr.refl w);clear A;have i1:(4:Int)<l.length:=ω;by_cases d:l.take 4=[70,73,82,75]
  ·rw[d]at M;obtain⟨b,O,cp,I,D⟩:=z.cell1 Fk.u8 rfl 4 ω;simp only[ir]at I;obtain⟨rfl,Q,rfl⟩:=I;clear Q;rw[<- cg l 4 0 ω]at D;have ak:w.cell? ⟨b,O+4,none⟩=some (.int .u8 ((l.getD 4 0).toNat:Int)):=D;have R:=ad (FD l o d);have U:=ad (FF l o d);have V:=ad (λx=>pN x 1 3);have ap:=(l.getD 4 0).toNat_lt;generalize eE l=mv,(l.getD 4 0).toNat=x at *;have av:IntKind.i64.wrap (x:Int)=(x:Int):=kf _ ω;clear D G d;go_in;go_wp2_with fail;refine((V.out _) _).mono ?_;rintro e w1 ⟨rfl,rfl⟩;by_cases J:1<=x/\x<=3;·have m:=ad (R.out J);have F:decide ((1:Int)<=(x:Int)/\(x:Int)<=3)=true:=bp ω;rw[F];go_wp2;go_ret2;exact⟨by rw[m.out];rfl,Fr.refl w⟩
   ·have m:=ad (U.out J);have F:decide ((1:Int)<=(x:Int)/\(x:Int)<=3)=false:=br ω;rw[F];go_wp2;go_ret2;exact⟨by rw[m.out];rfl,Fr.refl w⟩
  ·have m:=ad (FG l o d);rw[m.out];have a2:¬(⟨(l.take 4).toArray⟩:ByteArray)=⟨#[70,73,82,75]⟩:=(by intro e;have:=dp (λb:ByteArray=>b.data.toList) e;exact d (by simpa using this));have a3:(l.take 4 == [70,73,82,75])=false:=(by simpa using d);have a4:¬(l.take 4).toArray=#[70,73,82,75]:=λe=>d (by simpa using dp Array.toList e);go_in;go_wp2;go_ret2;exact⟨rfl,Fr.refl w⟩
def Ha(l:Z0):(cK l=0)↔bz l=true:=by
 unfold cK;cases h:bz l;·simp;split <;> omega
 ·simp
def H7(v:Value)(l:Z0)(w:World)(m:ah w eB v l)(V:l.length<=1000000)(J:cP w):Calls Tryz.prog 58 #[v] w λe w'=>e=.returned (.bool (go l))/\Fr w w':=by
 have X:=ad (uf v l w m V J);have K:=ad (λW (h:Fr w W)=>Xh v l W (m.fr h));have o:Hid (go l=(bz l && decide (eE l=(3,0)))):=rfl;have L:=ad (Ha l);obtain⟨a0,aj,rfl,_⟩:=m.shape;clear m J;generalize go l=R at *;generalize Y:eE l=Z at *;obtain⟨D,M⟩:=Z;clear Y;generalize bE l=q,cK l=ec,bz l=O at *;simp only at K;go_in;go_wp2_with fail;apply X.z;rintro e w1 ⟨u,rfl,Q,U⟩;obtain⟨p1,z1,rfl⟩:=Q.shape';clear Q;go_wp2_with fail;refine(K.out _ U).mono ?_;rintro e w2 ⟨rfl,aa⟩;have z:=U.trans aa;by_cases A:ec=0
 ·have F:=L.out.1 A;subst F A;by_cases G:M=0
  ·subst G;by_cases I:D=3;·subst I;have d:Hid (R=true):=ad (by rw[o.out];rfl);go_wp2;go_ret;exact⟨by rw[d.out];rfl,z⟩
   ·have ab:¬(D:Int)=3:=ω;have d:Hid (R=false):=(by show _=_;rw[o.out,qA];exact br (λe=>I (Prod.mk.inj e).1));have hb:((D:Int) == 3)=false:=(by simpa using ab);clear I;go_wp2;go_ret;exact⟨by rw[d.out];rfl,z⟩
  ·have a2:¬(M:Int)=0:=ω;have d:Hid (R=false):=(by show _=_;rw[o.out,qA];exact br (λe=>G (Prod.mk.inj e).2));clear G;go_wp2;go_ret;exact⟨by rw[d.out];rfl,z⟩
 ·have F:O=false:=(by cases O;rfl;exact absurd (L.out.2 rfl) A);have a3:¬(ec:Int)=0:=ω;have d:Hid (R=false):=ad (by rw[o.out,F];rfl);clear A;go_wp2;go_ret;exact⟨by rw[d.out];rfl,z⟩
def Uk(v:Value)(l:Z0)(w:World)(d:ah w eB v l)(h:l.length<42):Calls Tryz.prog 56 #[v] w λe w'=>e=.returned (.tuple #[.slice none 0 0,.slice none 0 0,.bool false])/\Fr w w':=by
 obtain⟨m,o,rfl,_⟩:=d.shape;have z:(l.length:Int)<42:=ω
 go_in;go_wp2_with fail;exact bFQb (v:=.tuple #[.slice none 0 0,.slice none 0 0,.bool false]) (by simp[results,Tryz.results56,go_sem, *]) rfl ⟨rfl,Fr.refl w⟩
def Ic(v:Value)(l:Z0)(w:World)(d:ah w eB v l)(Q:42<=l.length):Calls Tryz.prog 56 #[v] w λe w'=>∃h o,e=.returned (.tuple #[h,o,.bool true])/\ah w' eB h (l.take 21)/\ah w' eB o (l.drop (l.length-21))/\Fr w w':=by
 obtain⟨F,G,rfl,R,I,_⟩:=d.shape;unfold maxLen at I;have U:¬(l.length:Int)<42:=ω
 obtain⟨V,z⟩:=jj eB 30 Tryz.underlying30 d 21 ω;obtain⟨J,K,X,D⟩:=lK eB 30 Tryz.underlying30 d (l.length-21) ω;have Y:IntKind.i64.wrap ((l.length:Int)-21)=((l.length-21:Nat):Int):=by rw[show(l.length:Int)-21=((l.length-21:Nat):Int) by omega];exact ax _ ω
 have L:=ad z;have M:=ad D;clear z D d;generalize l.length-(l.length-21)=m at *;generalize O:l.length-21=k at *;clear O;go_in;go_wp2;go_quiet (fail);go_wp2_with fail;exact bFQb (v:=.tuple #[.slice F 21 G,.slice J m K,.bool true]) (by simp[results,Tryz.results56,go_sem, *]) rfl ⟨_,_,rfl,L.out.fr ((Fr.refl w).drewN _),M.out.fr ((Fr.refl w).drewN _),(Fr.refl w).drewN _⟩
def an(l:Z0):Z0:=if go (l.take 21)then l.take 21 else l.drop (l.length-21)
def gm(l:Z0):Bool:=go (l.take 21) || go (l.drop (l.length-21))
def Iv(v:Value)(l:Z0)(w:World)(d:ah w eB v l)(h:l.length<42):Calls Tryz.prog 26 #[v] w λe w'=>e=.returned (.tuple #[.slice none 0 0,.int .i64 1])/\Fr w w':=by
 have m:=ad (Uk v l w d h);obtain⟨z,A,rfl,_⟩:=d.shape;clear d;go_in;go_wp2_with fail;apply m.z;rintro e D ⟨rfl,o⟩;go_wp2;go_ret2;exact⟨rfl,o⟩
def Iw(v:Value)(l:Z0)(w:World)(z:ah w eB v l)(Y:42<=l.length)(A:cP w):Calls Tryz.prog 26 #[v] w λe w'=>∃u,e=.returned (.tuple #[u,.int .i64 ((if gm l then 0 else 5:Nat):Int)])/\(gm l=true->ah w' eB u (an l))/\(gm l=false->u=.slice none 0 0)/\Fr w w':=by
 have Z:=ad (Ic v l w z Y);have H1:=ad (λW m (h:ah W eB m (l.take 21)) (D:Fr w W)=>H7 m (l.take 21) W h (by rw[aA];omega) (A.fr D));have H2:=ad (λW m (h:ah W eB m (l.drop (l.length-21))) (D:Fr w W)=>H7 m (l.drop (l.length-21)) W h (by rw[aN];omega) (A.fr D));have F:Hid (gm l=(go (l.take 21) || go (l.drop (l.length-21)))):=rfl;have O:Hid (an l=if go (l.take 21)then l.take 21 else l.drop (l.length-21)):=rfl;obtain⟨a0,a2,rfl,_⟩:=z.shape;clear z A;generalize l.drop (l.length-21)=L2,l.take 21=Q at *;generalize an l=H,gm l=R,go L2=b2,go Q=b1 at *;obtain⟨ec,G⟩:∃q:Nat,q=(if R then 0 else 5):=⟨_,rfl⟩;rw[<- G];have I:=ad G;clear G;go_in;go_wp2_with fail;apply Z.z;rintro e w1 ⟨m,v2,rfl,J,K,U⟩;have ak:=ad (H1.out w1 m J U);obtain⟨p1,z1,rfl,_⟩:=J.shape;obtain⟨p2,z2,rfl,_⟩:=K.shape;go_wp2_with fail;apply ak.z;rintro e w2 ⟨rfl,o⟩;have L:=U.trans o
 cases b1 with
 | true=>have d:Hid (R=true):=ad (by rw[F.out];rfl);have M:Hid (H=Q):=ad (by rw[O.out];rfl);go_wp2;go_ret2;exact⟨_,by rw[I.out,d.out];rfl,λ_=>by rw[M.out];exact J.fr o,λh=>(by rw[d.out]at h;cases h),L⟩
 | false=>
  have M:Hid (H=L2):=ad (by rw[O.out];rfl);have av:=ad (H2.out w2 _ (K.fr o) L);go_wp2_with fail;apply av.z;rintro e w3 ⟨rfl,V⟩;have X:=L.trans V
  cases b2 with
  | true=>have d:Hid (R=true):=ad (by rw[F.out];rfl);go_wp2;go_ret2;exact⟨_,by rw[I.out,d.out];rfl,λ_=>by rw[M.out];exact K.fr (o.trans V),λh=>(by rw[d.out]at h;cases h),X⟩
  | false=>have d:Hid (R=false):=ad (by rw[F.out];rfl);go_wp2;go_ret2;exact⟨_,by rw[I.out,d.out];rfl,λh=>(by rw[d.out]at h;cases h),λ_=>rfl,X⟩
structure mS (w:World) (B base:Nat) (v:Value) (l:Z0):Prop where
 own:Ow w base eB v l
 top:∀k,v.ownBlock=some k->k<B
def mS.see{w:World}{B base:Nat}{v:Value}{l:Z0}(h:mS w B base v l):ah w eB v l:=h.own.see
def mS.shape'{w:World}{B base:Nat}{v:Value}{l:Z0}(h:mS w B base v l):∃a d,v=.slice a l.length d:=h.own.shape'
def mS.fr{w w':World}{B base:Nat}{v:Value}{l:Z0}(h:mS w B base v l)(d:Fr w w'):mS w' B base v l:=⟨h.own.fr d,h.top⟩
def mS.chg{w w':World}{B base:Nat}{v:Value}{l:Z0}{G:Nat->Prop}(h:mS w B base v l)(d:ai G w w')(e:∀k,v.ownBlock=some k->¬G k):mS w' B base v l:=⟨h.own.chg d e,h.top⟩
def mS.ne_cells{w:World}{B base:Nat}{v:Value}{l:Z0}(h:mS w B base v l){b:Nat}{d:Array Value}{T:TypeId}{f:Nat × Nat}(e:w.heap[b]?=some (.cells d T f))(m:T≠(eB:aw Tryz.prog UInt8).e):v.ownBlock≠some b:=h.own.ne_cells e m
structure aD (w:World) (T:TypeId) (B base:Nat) (l:Z0) (n er:Nat):Prop where
 h:∃v,w.heap[B]?=some (.cells #[v,N n,.int .i64 (er:Int)] T (0,0))/\mS w B base v l
 le:n<=l.length
def aD.behind{w w':World}{B base n d b:Nat}{T:TypeId}{l:Z0}{v v':Value}{xs A:Z0}(h:aD w T B base l n d)(m:Ow w b eB v xs)(o:dw b eB A w v v' w')(I:B<b):aD w' T B base l n d:=by
 obtain⟨⟨x,D,z⟩,F⟩:=h;refine⟨⟨x,o.chg'.heap D (λe=>?_),z.chg o.chg' (λk G e=>?_)⟩,F⟩;·have:=(m.lt _ e).1;omega
 ·have J:=z.top k G;have K:=(m.lt _ e).1;omega
def aD.fr{w w':World}{T:TypeId}{B base n d:Nat}{l:Z0}(h:aD w T B base l n d)(e:Fr w w'):aD w' T B base l n d:=by
 obtain⟨⟨v,m,o⟩,z⟩:=h;exact⟨⟨v,e.heap m,o.fr e⟩,z⟩
def qm(v:Value)(l:Z0)(w:World)(d:ah w eB v l)(A:l.length<=1000000):Calls Tryz.prog 99 #[v] w λe w'=>∃B,e=.returned (.pointer (some ⟨B,0,none⟩))/\aD w' 224 B w.heap.size l 0 0/\Fr w w'/\w.heap.size<=B:=by
 have D:=ad (lE v l w d A);obtain⟨G,I,rfl,_⟩:=d.shape;clear d;go_in;go_wp2_with fail;apply D.z;rintro e m ⟨u,rfl,h,o⟩;obtain⟨p,z,rfl⟩:=h.shape';go_wp2;go_ret;exact⟨m.heap.size,rfl,⟨⟨_,aB _ _ _ rfl,h.fr ((Fr.refl m).alloc _),λk F=>(h.lt k F).2⟩,ar _⟩,o.alloc _,o.size⟩
def aD.box{w w':World}{T d:TypeId}{B base n m g:Nat}{l:Z0}{A:Array Value}{f:Nat × Nat}(h:aD w T B base l n m)(D:w.heap[g]?=some (.cells A d f))(F:d≠(eB:aw Tryz.prog UInt8).e)(G:B≠g)(o:ai (λk=>k=g) w w'):aD w' T B base l n m:=by
 obtain⟨⟨v,I,z⟩,J⟩:=h;exact⟨⟨v,o.heap I G,z.chg o (λk K e=>z.ne_cells D F (by rw[K,e]))⟩,J⟩
def Yo(W:World)(z:Nat)(d e h v3 m o:Value):World:=(((((W.setCell ⟨z,0,none⟩ d).setCell ⟨z,1,none⟩ e).setCell ⟨z,2,none⟩ h).setCell ⟨z,3,none⟩ v3).setCell ⟨z,4,none⟩ m).setCell ⟨z,5,none⟩ o
def Ap(B base n A:Nat)(l:Z0)(w:World)(D:aD w 224 B base l n A):Calls Tryz.prog 181 #[.pointer (some ⟨B,0,none⟩)] w λe w'=>∃a d,e=.returned (.slice a (l.length-n) d)/\ah w' eB (.slice a (l.length-n) d) (l.drop n)/\Fr w w':=by
 obtain⟨⟨v,h,o⟩,F⟩:=D;obtain⟨I,d,rfl⟩:=o.shape';obtain⟨J,K,L,z⟩:=lK eB 30 Tryz.underlying30 o.see n F;have M:=ag h 0 rfl;have O:=ag h 1 rfl;have G:=ad z;clear h o z;generalize l.length-n=m at *;go_in;go_wp2;go_quiet (fail);go_wp2;go_ret;exact⟨_,_,rfl,G.out.fr ((Fr.refl w).drewN _),(Fr.refl w).drewN _⟩
def ld(B base n d:Nat)(l:Z0)(w:World)(m:aD w 224 B base l n d):Calls Tryz.prog 133 #[.pointer (some ⟨B,0,none⟩)] w λe w'=>e=.returned (.int .i64 (d:Int))/\w=w':=by
 obtain⟨⟨v,h,o⟩,z⟩:=m;have c2:=ag h 2 rfl;clear h o;go_in;go_wp2;go_ret;exact⟨rfl,rfl⟩
def LX(Bn m k:Nat)(v:Value)(l:Z0)(w:World)(d:w.heap[Bn]?=some (.cells #[N k] 3 (0,0)))(h:ah w eB v l)(o:l.length<k):Calls Tryz.prog 184 #[v,.pointer (some ⟨Bn,0,none⟩),.pointer (some ⟨m,0,none⟩)] w λe w'=>e=.returned (.tuple #[.int .i64 0,.int .i64 1])/\w=w':=by
 obtain⟨z,A,rfl,_⟩:=h.shape;have D:=ag d 0 rfl;have F:¬(k:Int)<0:=ω
 have G:(l.length:Int)<k:=ω
 clear h d;go_in;go_wp2;go_ret2;exact⟨rfl,rfl⟩
def LW(Bn d k:Nat)(v O:Value)(l:Z0)(w:World)(I:w.heap[Bn]?=some (.cells #[N k] 3 (0,0)))(J:w.heap[d]?=some (.cells #[O] 30 (0,0)))(Q:Bn≠d)(D:ah w eB v l)(R:k<=l.length)(hl:l.length<=1000000):Calls Tryz.prog 184 #[v,.pointer (some ⟨Bn,0,none⟩),.pointer (some ⟨d,0,none⟩)] w λe w'=>e=.returned (.tuple #[N k,.int .i64 0])/\∃u,w'.heap[d]?=some (.cells #[u] 30 (0,0))/\Ow w' w.heap.size eB u (l.take k)/\ai (λb=>b=d) w w':=by
 obtain⟨a0,aj,rfl,_⟩:=D.shape;obtain⟨ak,K⟩:=jj eB 30 Tryz.underlying30 D k R;have U:=ag I 0 rfl;have h1:¬(k:Int)<0:=ω
 have h2:¬(l.length:Int)<k:=ω
 have L:=ad (lE _ (l.take k) w K (by rw[aA];omega));have a1:d<w.heap.size:=(aR.1 J).1;clear D K;generalize l.take k=q at *;go_in;go_wp2_with fail;apply L.z;rintro e F ⟨u,rfl,m,G⟩;obtain⟨p,z,rfl⟩:=m.shape';have o:=G.heap J;have M:=G.heap I;have d0:=ag o 0 rfl;have z0:=a8 o 0;have A:=a9 F ⟨d,0,none⟩ (.slice p q.length z);have V:=aJ o 0 (.slice p q.length z);have X:=A.heap M Q;have e0:(F.setCell ⟨d,0,none⟩ (.slice p q.length z)).cell? ⟨Bn,0,none⟩=some (N k):=by rw[aK X];rfl
 have Y:=m.chg A (λi Z e=>by have h8:=(m.lt i Z).1;have e:i=d:=e;omega);have aa:ai (λb=>b=d) w (F.setCell ⟨d,0,none⟩ (.slice p q.length z)):=(G.chg _).trans A λ_ _ h=>h;clear m A M o L U;go_wp2;go_ret2;exact⟨rfl,_,V,Y,aa⟩
def Of(B base n k Bn d:Nat)(M:Value)(l:Z0)(w:World)(I:aD w 224 B base l n 0)(O:w.heap[Bn]?=some (.cells #[N k] 3 (0,0)))(G:w.heap[d]?=some (.cells #[M] 30 (0,0)))(aj:Bn≠d)(hk:n+k<=l.length)(hl:l.length<=1000000)(hb:base<=w.heap.size):Calls Tryz.prog 167 #[.pointer (some ⟨B,0,none⟩),.func (.func 184) #[] #[.pointer (some ⟨Bn,0,none⟩),.pointer (some ⟨d,0,none⟩)]] w λe w'=>e=.returned (.bool true)/\∃u,w'.heap[d]?=some (.cells #[u] 30 (0,0))/\Ow w' w.heap.size eB u ((l.drop n).take k)/\aD w' 224 B base l (n+k) 0/\ai (λb=>b=d\/b=B) w w':=by
 have Q:=ad (ld B base n 0 l w I);have R:=ad (Ap B base n 0 l w I);have ap:(l.drop n).length=l.length-n:=aN ..;have U:=ad (λW v (V:Fr w W) (hs:ah W eB v (l.drop n))=>LW Bn d k v M (l.drop n) W (V.heap O) (V.heap G) aj hs ω ω);obtain⟨⟨v,o,J⟩,bb⟩:=I;have X:B≠d:=λe=>by rw[e,G]at o;cases o
 have bc:B<w.heap.size:=(aR.1 o).1;have bd:d<w.heap.size:=(aR.1 G).1;have a0:=J.ne_cells o δ;have a1:=J.ne_cells G δ;have bf:=ax ((n:Int)+k) ω;clear O ap;generalize l.length-n=m,(l.drop n).take k=q at *;go_in;go_wp2_with fail;apply Q.z;rintro e w1 ⟨rfl,rfl⟩;go_wp2_with fail;apply R.z;rintro e w2 ⟨a,bl,rfl,Y,z⟩;have Z:=ad (U.out w2 _ z Y);go_wp2_with fail;apply Z.z;rintro e w3 ⟨rfl,u,ab,K,L⟩;have A:=L.heap (z.heap o) X;have ac:=(J.fr z).chg L (λi D e=>a1 (by rw[D,show i=d from e]));have c1:=ag A 1 rfl;have z1:=a8 A 1;have F:=a9 w3 ⟨B,1,none⟩ (.int .i64 ((n:Int)+k));have a3:=aJ A 1 (.int .i64 ((n:Int)+k));have a4:=F.heap ab (λe=>X e.symm);have a5:=K.chg F (λi D e=>(K.ne_cells A δ) (by rw[D,show i=B from e]));have a6:=ac.chg F (λi D e=>a0 (by rw[D,show i=B from e]));have a7:ai (λb=>b=d\/b=B) w (w3.setCell ⟨B,1,none⟩ (.int .i64 ((n:Int)+k))):=((z.chg _).trans (L.mono λ_ _ h=>.inl h) λ_ _ h=>h).trans F λ_ _ h=>.inr h;clear Q R U Z Y ab K A ac F;go_wp2;go_ret;exact⟨rfl,u,a4,a5.rebase z.size,⟨⟨v,a3,a6⟩,hk⟩,a7⟩
def Cg(B base n k:Nat)(l:Z0)(w:World)(m:aD w 224 B base l n 0)(L:n+k<=l.length)(M:l.length<=1000000)(O:base<=w.heap.size):Calls Tryz.prog 145 #[.pointer (some ⟨B,0,none⟩),N k] w λe w'=>∃u,e=.returned u/\Ow w' w.heap.size eB u ((l.drop n).take k)/\aD w' 224 B base l (n+k) 0/\ai (λb=>b=B) w w':=by
 have Y:∀(A:Fn) (first D:Array Value) (w:World),(Instr.makeFunc A first D).run Tryz.prog w=.ok (.func A first D) w:=λ_ _ _ _=>rfl;have Z:B<w.heap.size:=by obtain⟨⟨v,Q,_⟩,_⟩:=m;exact(aR.1 Q).1
 have F:((w.alloc (.cells #[N k] 3)).alloc (.cells #[.slice none 0 0] 30)).heap[w.heap.size]?=some (.cells #[N k] 3 (0,0)):=by rw[jk _ _ _ σ,aB _ _ _ rfl]
 have G:((w.alloc (.cells #[N k] 3)).alloc (.cells #[.slice none 0 0] 30)).heap[w.heap.size+1]?=some (.cells #[.slice none 0 0] 30 (0,0)):=aB _ _ _ σ;have d:Fr w ((w.alloc (.cells #[N k] 3)).alloc (.cells #[.slice none 0 0] 30)):=((Fr.refl w).alloc _).alloc _;have I:=ad (Of B base n k w.heap.size (w.heap.size+1) (.slice none 0 0) l _ (m.fr d) F G ω L M (ay O d.size));have R:w.heap.size<=((w.alloc (.cells #[N k] 3)).alloc (.cells #[.slice none 0 0] 30)).heap.size:=d.size;clear F G m;generalize (l.drop n).take k=q at *;go_in;go_wp2_with fail;apply I.z;rintro e U ⟨rfl,u,J,o,hC,K⟩;have c1:=ag J 0 rfl;have V:ai (λb=>b=B) w U:=(d.chg _).trans (G':=λb=>b=w.heap.size+1\/b=B) K λi hi h=>by
  rcases h with h | h;·omega
  ·exact h
 have X:=o.rebase R;obtain⟨p,z,rfl⟩:=o.shape';clear I J o K;go_wp2;go_ret;exact⟨_,rfl,X,hC,V⟩
def yZ(B base n:Nat)(l:Z0)(w:World)(h:aD w 224 B base l n 0)(A:n+1<=l.length)(D:l.length<=1000000)(F:base<=w.heap.size):Calls Tryz.prog 100 #[.pointer (some ⟨B,0,none⟩)] w λe w'=>e=.returned (.int .u8 ((l.getD n 0).toNat:Int))/\aD w' 224 B base l (n+1) 0/\ai (λb=>b=B) w w':=by
 have d:=ad (Cg B base n 1 l w h A D F);have m:(l.drop n).take 1=[l.getD n 0]:=by rw[cg l n 0 ω,gE ω];rfl
 rw[m]at d;clear m h;generalize l.getD n 0=x at *;go_in;go_wp2_with fail;apply d.z;rintro e G ⟨u,rfl,o,hC,I⟩;obtain⟨b,J,K,rfl,z⟩:=o.see.cell1 Fk.u8 rfl 0 σ;have L:G.cell? ⟨b,J,none⟩=some (.int .u8 (x.toNat:Int)):=z;clear o z d;go_wp2;go_ret;exact⟨rfl,hC,I⟩
