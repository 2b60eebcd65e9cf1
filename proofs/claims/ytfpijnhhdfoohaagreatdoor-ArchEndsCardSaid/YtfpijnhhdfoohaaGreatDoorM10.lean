/- Parts of the proof of ArchEnds: N2 C1 C3 C2 Na Nb Nc Nd Ne Nf Ng Ca Cb Cc Cd Ce Cf Ua R1 B1 B2 B3 E1 V0 Dr1 O4 De Df Uv Cg N4. -/
import Derived.Test.YtfpijnhhdfoohaaGreatDoorM06
import Derived.Test.YtfpijnhhdfoohaaGreatDoorM08
import Derived.Test.YtfpijnhhdfoohaaGreatDoorM00
import Derived.Test.YtfpijnhhdfoohaaGreatDoorM09
import Derived.Test.YtfpijnhhdfoohaaGreatDoorM07
import Derived.Test.YtfpijnhhdfoohaaGreatDoorM01
import Derived.Test.YtfpijnhhdfoohaaGreatDoorM03
import Derived.Test.YtfpijnhhdfoohaaGreatDoorM30
set_option linter.unusedVariables false
set_option linter.unusedSectionVars false
set_option linter.unusedSimpArgs false
set_option maxHeartbeats 8000000
set_option maxRecDepth 100000
namespace Go.Fk
abbrev gu:=@Nat.sub_self
abbrev lR:=@Nat.div_le_self
abbrev mH:=@Go.Calls.quiet_of
abbrev qj:=@List.ext_getElem?
abbrev oW:=@Bool.true_and
abbrev rt:=@Nat.not_lt_zero
abbrev tw:=@List.drop_take
abbrev Fc:=@Nat.and_two_pow_sub_one_eq_mod
abbrev vG:=@Bool.eq_iff_iff
end Go.Fk
namespace Go.Proofs.YtfpijnhhdfoohaaGreatDoor
open Go.RowKit Go.Fk
theorem KF:gP 256 (fun y=>(y ||| 128) == 128+y % 128)=true:=by decide +kernel
theorem K7(x:Nat):bits .or .u8 ((x:Int) % 256) 128=((UInt8.ofNat (128+x % 128)).toNat:Int):=by
 have h:(x % 256) ||| 128=128+(x % 256) % 128:=beq_iff_eq.1 (iD 256 _ KF (x % 256) (by omega));rw [show(x:Int) % 256=((x % 256:Nat):Int) by omega,show(128:Int)=((128:Nat):Int)from rfl,BC (x % 256) 128 (by omega) (by omega),h,lP];omega
theorem uL(x:Nat)(h:x<256):(#[Value.int .u8 (x:Int)]:Array Value).toList=eB.cells [UInt8.ofNat x]:=by
 have e:(x:Int)=((UInt8.ofNat x).toNat:Int):=by rw [lP];omega
 rw [e];rfl
theorem uX(x:Nat)(B:x<18446744073709551616)(w:World) :
  Calls Tryz.prog 33 #[.int .u64 (x:Int)] w fun e D=>∃ v,e=.returned v/\Ow D w.heap.size eB v (bI x)/\Fr w D:=by
 have F:=jI x B;generalize G:bI x=R at *;have K:=ad F;go_enter Tryz.func33, Tryz.ntmps33;go_wp2_with fail;go_loopw [0,3] (fun q L wr=>∃ (y:Nat) (o:List UInt8),q=.int .u64 (y:Int)/\y<18446744073709551616/\Ow wr w.heap.size eB L o/\Hid (R=o++bI y)/\Fr w wr) (fun q _ _=>(intOf q).toNat);case atStart=>exact⟨x,[],rfl,B,Ow.nil,by show _=_;rw [G];rfl,Fr.refl w⟩
 case round=>
  obtain⟨y,o,rfl,U,m,z,d⟩:=hrel;have V:o.length<=10:=(by have M:=K.out;rw [z.out,aD]at M;omega);have I:o.length+1<=2147483648:=(by omega);clear F G;by_cases J:y<128;· have A:Hid (R=o++[UInt8.ofNat y]):=(by show _=_;rw [z.out,xD y J]);have O:=ad (uL y (by omega));have Q:¬(128:Int)<=y:=(by omega);generalize UInt8.ofNat y=c at *;go_wp2_with (at_builtin;refine cW eB rfl (.tmp 14) (.tmp 17) 22 rfl Tryz.underlying22 w.heap.size rfl m [c] _ _ _ O.out rfl rfl I d.size ?_);intro v' w4 h;go_wp2_with fail;go_ret;exact⟨_,rfl,by rw [A.out];exact h.own,h.below m d (am _) d.size⟩
  · have A:Hid (R=o++[UInt8.ofNat (128+y % 128)]++bI (y / 128)):=(by show _=_;rw [z.out,BS y J];simp);have X:=K7 y;have Q:(128:Int)<=y:=(by omega);generalize UInt8.ofNat (128+y % 128)=c at *;go_wp2_with (at_builtin;refine cW eB rfl (.tmp 6) (.tmp 10) 22 rfl Tryz.underlying22 w.heap.size rfl m [c] _ _ _ rfl rfl rfl I d.size ?_);intro v' w4 h;go_wp2_with fail;go_roundw;case rel=>exact⟨y / 128,o++[c],by go_num,by omega,h.own,A,h.below m d (am _) d.size⟩
    case measure=>simp [intOf];omega
theorem QI(s:List UInt8)(D:s.length<=1000000000)(w:World) :
  Calls Tryz.prog 94 #[S s] w fun e h=>∃ v,e=.returned v/\Ow h w.heap.size eB v (lw s)/\Fr w h:=by
 have q:=ad (uX s.length (by omega));have z:=jI s.length (by omega);have A:(bI s.length).length+s.length<=2147483648:=by omega
 have B:Hid (lw s=bI s.length++s):=rfl;generalize bI s.length=F at *;clear z;go_enter Tryz.func94, Tryz.ntmps94;go_wp2_with fail;refine(q.out _).mono ?_;rintro e G ⟨I,rfl,m,d⟩;go_wp2_with (at_builtin;refine F9 eB rfl (.tmp 6) (.tmp 7) 22 9 rfl Tryz.underlying22 Tryz.underlying9 rfl rfl rfl w.heap.size rfl m s rfl A d.size ?_);intro v' w4 o;go_wp2_with fail;go_ret;exact⟨_,rfl,by rw [B.out];exact o.own,o.below m d (am _) d.size⟩
theorem vh(v:Value)(h:List Hd)(d:List (List UInt8))(w:World)(m:dl w aQ eB v h d)(q:d.flatten.length<=1000000) :
  Calls Tryz.prog 32 #[v] w fun e o=>∃ v,e=.returned v/\Ow o w.heap.size eB v d.flatten/\Fr w o:=by
 obtain⟨a,F,z,_⟩:=m.1.shape;have A:=ad (EX v h d w m q);subst z;go_enter Tryz.func32, Tryz.ntmps32;go_wp2_with fail;refine A.out.mono ?_;rintro e G ⟨I,rfl,B,D⟩;go_wp2_with fail;go_ret;exact⟨_,rfl,B,D⟩
def bK(w:World):Prop:=∀ i,i<16->w.cell? ⟨0,i,none⟩=some (.int .u32 ((it i:Nat):Int))
theorem bK.fr{w d:World}(h:bK w)(e:Fr w d):bK d:=fun i m=>e.cell (h i m)
abbrev U4(n:Nat):Value:=.int .u32 (n:Int)
theorem Ep(x:Nat)(h:x<4294967296):bits .and .u32 (x:Int) 15=((x % 16:Nat):Int):=by
 have:=Q1 x 15 h (by omega);have e:x &&& 15=x % 16:=Fc x 4;rw [e]at this;exact this
theorem BU(x:Nat)(h:x<4294967296):bits .xor .u32 IntKind.u32.max (x:Int)=((4294967295 - x:Nat):Int):=by
 have e:=zD 32 x h;rw [Nat.xor_comm]at e;have:=qr 4294967295 x (by omega) h;rw [show(4294967295:Nat) ^^^ x=4294967295 - x from e]at this;exact this
theorem RS (x : Nat) (hx : x < 4294967296) (v : Value) (B : List Hd) (d : List (List UInt8)) (w : World) (D : dl w aQ eB v B d) (L : bK w) :
    Calls Tryz.prog 98 #[U4 x,v] w fun e w'=>e=.returned (U4 (4294967295 - dk (4294967295 - x) d.flatten))/\w=w':=by
  obtain⟨a,bk,rfl,bl,ak,bm⟩:=D.1.shape;unfold maxLen at ak;have ap:=BU x hx;have M:=ad D.2.1;go_enter Tryz.func98, Tryz.ntmps98;go_wp2_with fail;go_loop [5,14] (fun G I=>∃ k:Nat,k<=B.length/\I=N k/\G=U4 (dk (4294967295 - x) (d.take k).flatten)) (fun _ I=>B.length - (intOf I).toNat);case atStart=>exact⟨0,an _,rfl,rfl⟩
  case round=>
    obtain⟨k,hk,rfl,rfl⟩:=hrel;clear ap;have J:dk (4294967295 - x) (d.take k).flatten<4294967296:=yr _ _ (by omega);by_cases O:k<B.length
    · obtain⟨b,bu,bv,av,e0⟩:=D.1.cell1 (fun(h:Hd)=>h.v) rfl k O;have Q:k<d.length:=(by have:=M.out;omega);have F:=D.2.2 k O Q;have HF:Hid (dk (4294967295 - x) (d.take (k+1)).flatten=dk (dk (4294967295 - x) (d.take k).flatten) d[k]):=(by show _=_;rw [sp d k Q,OW]);obtain⟨a2,c2,R,_⟩:=F.shape;generalize B[k]=h at *;generalize d[k]=p at *;generalize dk (4294967295 - x) (d.take k).flatten=Y at *;obtain⟨ha,a3,b1⟩:=h;simp only [Hd.v,go]at R;obtain⟨rfl,rfl,rfl⟩:=R;simp only [Hd.v]at e0 F;cases av;have m:(0:Int)<=k:=(by omega);have o:(k:Int)<B.length:=(by omega);have a4:=F.le;unfold maxLen at a4;go_wp2_with fail;go_loop [5,20] (fun G K=>∃ j:Nat,j<=p.length/\K=N j/\G=U4 (dk Y (p.take j))) (fun _ K=>p.length - (intOf K).toNat);case atStart=>exact⟨0,an _,rfl,rfl⟩
      case round=>
        obtain⟨j,hj,rfl,rfl⟩:=hrel;have U:dk Y (p.take j)<4294967296:=yr _ _ J;by_cases V:j<p.length
        · obtain⟨b2,b5,b6,a5,g0⟩:=F.cell1 (fun c=>Fk.u8 c) rfl j V;have HZ:Hid (dk Y (p.take (j+1))=rk (dk Y (p.take j)) p[j].toNat):=Dw Y p j V;generalize p[j]=c at *;generalize dk Y (p.take j)=z at *;cases a5;have b8:=c.toNat_lt;have k1:=qr z c.toNat U (by omega);have a7:z ^^^ c.toNat<2 ^ 32:=jz U (by omega);have HB:=ad (PF z c.toNat);generalize z ^^^ c.toNat=q at *;have k2:=Ep q a7;have X:q % 16<16:=(by omega);generalize q % 16=m at *;have t1:=L m X;have Z:=Ao m X;have k3:bits .xor .u32 ((q:Int) / 16) ((it m:Nat):Int)=(((q / 16) ^^^ it m:Nat):Int):=(by rw [show(q:Int) / 16=((q / 16:Nat):Int) by omega];exact qr (q / 16) (it m) (by omega) Z);have ba:(q / 16) ^^^ it m<2 ^ 32:=jz (by omega) Z;generalize (q / 16) ^^^ it m=A at *;have k4:=Ep A ba;have aa:A % 16<16:=(by omega);generalize A % 16=o at *;have t2:=L o aa;have bb:=Ao o aa;have k5:bits .xor .u32 ((A:Int) / 16) ((it o:Nat):Int)=(((A / 16) ^^^ it o:Nat):Int):=(by rw [show(A:Int) / 16=((A / 16:Nat):Int) by omega];exact qr (A / 16) (it o) (by omega) bb);have HE:Hid (dk Y (p.take (j+1))=A / 16 ^^^ it o):=(by show _=_;rw [HZ.out,HB.out]);generalize (A / 16) ^^^ it o=z3 at *;generalize it m=y1 at *;generalize it o=y2 at *;have l1:(0:Int)<=m:=(by omega);have l2:(m:Int)<16:=(by omega);have l3:(0:Int)<=o:=(by omega);have l4:(o:Int)<16:=(by omega);have l5:(0:Int)<=j:=(by omega);have l6:(j:Int)<p.length:=(by omega);go_wp2_with fail;go_round;case rel=>exact⟨j+1,by omega,by go_num,by rw [HE.out]⟩
          case measure=>simp [intOf];omega
        · obtain rfl:j=p.length:=(by omega);have bd:¬((p.length:Int)<p.length):=(by omega);rw [dO,<- HF.out];go_wp2_with fail;go_round;case rel=>exact⟨k+1,by omega,by go_num,rfl⟩
          case measure=>simp [intOf];omega
    · obtain rfl:k=B.length:=(by omega);have bd:¬((B.length:Int)<B.length):=(by omega);rw [eC (by have:=M.out;omega)]at J ⊢;have a3:=BU _ J;generalize ab:dk (4294967295 - x) d.flatten=Y at *;have HY:=ad ab;clear ab;go_wp2_with fail;go_ret;exact⟨by rw [HY.out];rfl,rfl⟩
theorem KT(w:World)(v:Value)(r:Hd)(p:List UInt8)(h:v=r.v)(m:ai w eB v p)(d:Array Value)(o:d=#[v]):dl (w.alloc (.cells d 22)) aQ eB (.slice (some ⟨w.heap.size,0,none⟩) 1 1) [r] [p]:=by
 subst h o;refine⟨l8 aQ w [r] _ _ 1 rfl rfl (by simp [maxLen]),rfl,fun i e q=>?_⟩;have:i=0:=by simp at e;exact e
 subst this;exact m.fr ((Fr.refl w).alloc _)
theorem Ex(v:Value)(p:List UInt8)(w:World)(d:ai w eB v p)(o:bK w) :
  Calls Tryz.prog 63 #[v] w fun e q=>e=.returned (U4 (fU p))/\Fr w q:=by
 obtain⟨a,z,h,_⟩:=d.shape;have m:=KT w v ⟨a,p.length,z⟩ p h d #[v] rfl;subst h;have A:=ad (RS 0 (by omega) _ _ _ _ m (o.fr ((Fr.refl w).alloc _)));have B:Hid (4294967295 - dk (4294967295 - 0) [p].flatten=fU p):=by show _=_;unfold fU;simp
 generalize 4294967295 - dk (4294967295 - 0) [p].flatten=Y at *;clear m;go_enter Tryz.func63, Tryz.ntmps63;go_wp2_with fail;refine A.out.mono ?_;rintro e D ⟨rfl,rfl⟩;go_wp2_with fail;go_ret;exact⟨by rw [<- B.out];rfl,(Fr.refl w).alloc _⟩
def lx(s:Nat):List UInt8:=[UInt8.ofNat (s % 256),UInt8.ofNat (s / 256 % 256),UInt8.ofNat (s / 65536 % 256),UInt8.ofNat (s / 16777216 % 256)]
theorem Am(s:Nat)(o:s<4294967296)(w:World) :
  Calls Tryz.prog 62 #[U4 s] w fun e d=>∃ v,e=.returned v/\Ow d w.heap.size eB v (lx s)/\Fr w d:=by
 have h:∀ W:World,Ow (W.alloc (.cells #[.int .u8 ((s:Int) % 256),.int .u8 ((s:Int) / 256 % 256),.int .u8 ((s:Int) / 65536 % 256),.int .u8 ((s:Int) / 16777216)] 5)) W.heap.size eB (.slice (some ⟨W.heap.size,0,none⟩) 4 4) (lx s):=by intro W;refine n9 eB W _ (lx s) 4 rfl (by simp [maxLen,lx]) (am _) ?_;rw [show(s:Int) % 256=((s % 256:Nat):Int) by omega,show(s:Int) / 256 % 256=((s / 256 % 256:Nat):Int) by omega,show(s:Int) / 65536 % 256=((s / 65536 % 256:Nat):Int) by omega,show(s:Int) / 16777216=((s / 16777216 % 256:Nat):Int) by omega];rw [pT _ (by omega),pT _ (by omega),pT _ (by omega),pT _ (by omega)];rfl
 have m:=ad (h w);clear h;go_enter Tryz.func62, Tryz.ntmps62;go_wp2_with fail;go_ret;exact⟨_,rfl,m.out,(Fr.refl w).alloc _⟩
theorem E8(v:Value)(p:List UInt8)(w:World)(d:ai w eB v p)(F:p.length<=1000000)(G:bK w) :
  Calls Tryz.prog 37 #[v] w fun e q=>∃ v',e=.returned v'/\Ow q w.heap.size eB v' (fV p)/\Fr w q:=by
 obtain⟨a,V,I,_⟩:=d.shape;have J:=ad (fun W (h:ai W eB v p)=>jT v p W h F);have K:=ad (fun W (h:ai W eB v p) (L:bK W)=>Ex v p W h L);have M:=ad (Am (fU p) (wl p));have O:Hid (fV p=p++lx (fU p)):=rfl;generalize fU p=s at *;subst I;go_enter Tryz.func37, Tryz.ntmps37;go_wp2_with fail;refine(J.out _ d).mono ?_;rintro e X ⟨Y,rfl,Q,m⟩;go_wp2_with fail;refine(K.out _ (d.fr m) (G.fr m)).mono ?_;rintro e Z ⟨rfl,z⟩;go_wp2_with fail;refine(M.out _).mono ?_;rintro e w3 ⟨v3,rfl,R,A⟩;have B:=Q.fr (z.trans A);have o:=(m.trans z).trans A;have U:p.length+(lx s).length<=2147483648:=by show _+4<=_;omega
 go_wp2_with (at_builtin;refine jb eB rfl (.tmp 4) (.tmp 7) 22 rfl Tryz.underlying22 w.heap.size rfl B _ _ rfl R.see U o.size ?_);intro v4 w4 D;go_wp2_with fail;go_ret;exact⟨_,rfl,by rw [O.out];exact D.own,D.below B o (am _) o.size⟩
theorem R5 (x : Nat) (q : x < 4294967296) (w : World) :
    Calls Tryz.prog 163 #[U4 x] w fun e m=>e=.returned (U4 (cC x))/\w=m:=by
  by_cases h:x % 2=1;· have d:Hid (cC x=(x / 2) ^^^ 3988292384):=(by show _=_;unfold cC;rw [ag h]);have o:(x:Int) % 2=1:=(by omega);have z:bits .xor .u32 ((x:Int) / 2) 3988292384=(((x / 2) ^^^ 3988292384:Nat):Int):=(by rw [show(x:Int) / 2=((x / 2:Nat):Int) by omega];exact qr (x / 2) 3988292384 (by omega) (by omega));go_enter Tryz.func163, Tryz.ntmps163;go_wp2_with fail;go_ret;exact⟨by rw [d.out];rfl,rfl⟩
  · have d:Hid (cC x=x / 2):=(by show _=_;unfold cC;rw [ae h]);have o:(x:Int) % 2=0:=(by omega);go_enter Tryz.func163, Tryz.ntmps163;go_wp2_with fail;go_ret;exact⟨by rw [d.out];go_num,rfl⟩
def sI:Nat->Nat->Nat
 | 0,x=>x
 | n+1,x=>cC (sI n x)
theorem Qa(n x:Nat)(h:x<4294967296):sI n x<4294967296:=by
 induction n with
 | zero=>exact h
 | succ n d=>exact kV _ d
theorem R2(x:Nat)(U:x<4294967296)(v:Value)(p:List UInt8)(w:World)(A:ai w eB v p) :
  Calls Tryz.prog 114 #[U4 x,v] w fun e G=>e=.returned (U4 (4294967295 - dk (4294967295 - x) p))/\w=G:=by
 obtain⟨a,V,rfl,X,I,Z⟩:=A.shape;unfold maxLen at I;have B:(4294967295:Int) - x=((4294967295 - x:Nat):Int):=by omega
 have J:=ad B;clear B;go_enter Tryz.func114, Tryz.ntmps114;go_wp2_with fail;go_loop [5,6] (fun d h=>∃ k:Nat,k<=p.length/\h=N k/\d=U4 (dk (4294967295 - x) (p.take k))) (fun _ h=>p.length - (intOf h).toNat);case atStart=>exact⟨0,an _,rfl,by first | rfl | (rw [J.out];rfl)⟩
 case round=>
  obtain⟨k,hk,rfl,rfl⟩:=hrel;have m:dk (4294967295 - x) (p.take k)<4294967296:=yr _ _ (by omega);by_cases D:k<p.length
  · obtain⟨b,ab,ac,K,e0⟩:=A.cell1 (fun c=>Fk.u8 c) rfl k D;have L:Hid (dk (4294967295 - x) (p.take (k+1))=sI 8 (dk (4294967295 - x) (p.take k) ^^^ p[k].toNat)):=Dw _ p k D;generalize p[k]=c at *;generalize dk (4294967295 - x) (p.take k)=z at *;cases K;have ak:=c.toNat_lt;have k1:=qr z c.toNat m (by omega);have M:z ^^^ c.toNat<2 ^ 32:=jz m (by omega);generalize z ^^^ c.toNat=o at *;have i1:(0:Int)<=k:=(by omega);have i2:(k:Int)<p.length:=(by omega);go_wp2_with fail;go_loop [5,7] (fun d q=>∃ j:Nat,j<=8/\q=N j/\d=U4 (sI j o)) (fun _ q=>8 - (intOf q).toNat);case atStart=>exact⟨0,by omega,rfl,rfl⟩
    case round=>
     obtain⟨j,hj,rfl,rfl⟩:=hrel;by_cases a2:j<8
     · have a3:(j:Int)<8:=(by omega);have O:=ad (R5 (sI j o) (Qa j o M));go_wp2_with fail;refine(O.out _).mono ?_;rintro e w1 ⟨rfl,rfl⟩;go_wp2_with fail;go_round;case rel=>exact⟨j+1,by omega,by go_num,rfl⟩
       case measure=>simp [intOf];omega
     · obtain rfl:j=8:=(by omega);rw [<- L.out];go_wp2_with fail;go_round;case rel=>exact⟨k+1,by omega,by go_num,rfl⟩
       case measure=>simp [intOf];omega
  · obtain rfl:k=p.length:=(by omega);have a5:¬((p.length:Int)<p.length):=(by omega);rw [dO]at m ⊢;generalize F:dk (4294967295 - x) p=Y at *;have Q:=ad F;clear F;have R:Hid ((4294967295:Int) - Y=((4294967295 - Y:Nat):Int)):=(by show _=_;omega);go_wp2_with fail;go_ret;exact⟨by rw [Q.out];first | rfl | (show Ending.returned (.int .u32 _)=_;rw [R.out]),rfl⟩
theorem Rf(v:Value)(p:List UInt8)(w:World)(d:ai w eB v p) :
  Calls Tryz.prog 79 #[v] w fun e h=>e=.returned (U4 (fU p))/\w=h:=by
 obtain⟨a,z,m,_⟩:=d.shape;have o:=ad (R2 0 (by omega) v p w d);have q:Hid (4294967295 - dk (4294967295 - 0) p=fU p):=rfl;generalize 4294967295 - dk (4294967295 - 0) p=Y at *;subst m;go_enter Tryz.func79, Tryz.ntmps79;go_wp2_with fail;refine o.out.mono ?_;rintro e A ⟨rfl,rfl⟩;go_wp2_with fail;go_ret;exact⟨by rw [<- q.out];rfl,rfl⟩
theorem Hh(s:Nat):lx s=mw 4 s:=by
 simp only [lx,mw,vw]
theorem Ri(v:Value)(p:List UInt8)(w:World)(m:ai w eB v p)(hn:p.length<=1000000) :
  Calls Tryz.prog 45 #[v] w fun e D=>∃ v',e=.returned v'/\Ow D w.heap.size eB v' (fV p)/\Fr w D:=by
 obtain⟨a,aj,M,_⟩:=m.shape;have O:=ad (Rf v p w m);have Q:Hid (fV p=p++mw 4 (fU p)):=by show _=_;rw [<- Hh];rfl
 have R:=wl p;generalize fU p=s at *;subst M;have q:=n9 eB w #[] [] 0 rfl (by simp [maxLen]) (am _);have F:=m.fr ((Fr.refl w).alloc (.cells #[] 5));have U:([]:List UInt8).length+p.length<=2147483648:=by simp;omega
 go_enter Tryz.func45, Tryz.ntmps45;go_wp2_with fail;refine O.out.mono ?_;rintro e w1 ⟨rfl,rfl⟩;go_wp2_with (at_builtin;refine jb eB rfl (.tmp 8) (.tmp 9) 22 rfl Tryz.underlying22 w.heap.size rfl q _ _ rfl F U (by simp) ?_);intro V G d;have I:Fr w G:=d.below q ((Fr.refl w).alloc _) (am _) (by simp);have J:Ow G w.heap.size eB V p:=d.own;clear d q F;go_wp2_with fail;go_loopw [3,4,5] (fun X Y z wr=>∃ (i y:Nat) (o:List UInt8),i<=4/\z=N i/\X=U4 y/\y<4294967296/\Ow wr w.heap.size eB Y o/\o.length=p.length+i/\Hid (fV p=o++mw (4 - i) y)/\Fr w wr) (fun _ _ z _=>4 - (intOf z).toNat);case atStart=>exact⟨0,s,p,by omega,rfl,rfl,R,J,rfl,Q.out,I⟩
 case round=>
  obtain⟨i,y,o,hi,rfl,rfl,hy,A,Z,K,h⟩:=hrel;clear J I;by_cases a0:i<4
  · have a1:(i:Int)<4:=(by omega);have L:4 - i=(4 - (i+1))+1:=(by omega);have B:Hid (fV p=o++[UInt8.ofNat (y % 256)]++mw (4 - (i+1)) (y / 256)):=(by show _=_;rw [K.out,L,mw];simp);have HB:Hid ((#[Value.int .u8 ((y:Int) % 256)]:Array Value).toList=eB.cells [UInt8.ofNat (y % 256)]):=(by show _=_;have:=uL (y % 256) (by omega);rw [show((y % 256:Nat):Int)=(y:Int) % 256 by omega]at this;exact this);have ab:o.length+1<=2147483648:=(by omega);clear L;generalize UInt8.ofNat (y % 256)=c at *;go_wp2_with (at_builtin;refine cW eB rfl (.tmp 15) (.tmp 19) 22 rfl Tryz.underlying22 w.heap.size rfl A [c] _ _ _ HB.out rfl rfl ab h.size ?_);intro v' w4 d;go_wp2_with fail;go_roundw;case rel=>exact⟨i+1,y / 256,o++[c],by omega,by go_num,by go_num,by omega,d.own,by rw [aD,Z];rfl,B,d.below A h (am _) h.size⟩
    case measure=>simp [intOf];omega
  · obtain rfl:i=4:=(by omega);have B:Hid (fV p=o):=(by show _=_;rw [K.out,gu,mw,gq]);go_wp2_with fail;go_ret;exact⟨_,rfl,by rw [B.out];exact A,h⟩
theorem uD(v:Value)(l:List UInt8)(w:World)(h:ai w eB v l):(convert 22 9 v).run Tryz.prog w=.ok (S l) w:=
 tY eB w 22 9 Tryz.underlying22 (by kernel_rfl) Tryz.underlying9 rfl rfl h
theorem Rg(d h:Value)(a b:List UInt8)(w:World)(m:ai w eB d a)(o:ai w eB h b) :
  Calls Tryz.prog 44 #[d,h] w fun e z=>e=.returned (.bool (decide (a=b)))/\w=z:=by
 have D:=uD d a w m;have F:=uD h b w o;obtain⟨G,I,A,_⟩:=m.shape;obtain⟨J,K,B,_⟩:=o.shape;subst A B;clear m o;have L:(a == b)=decide (a=b):=by rw [vG];simp
 generalize decide (a=b)=q at *;go_enter Tryz.func44, Tryz.ntmps44;go_wp2_with fail;go_ret;exact⟨rfl,rfl⟩
theorem zf(B D:Value)(a b:List UInt8)(w:World)(F:ai w eB B a)(G:ai w eB D b) :
  Calls Tryz.prog 115 #[B,D] w fun e Y=>e=.returned (.bool (decide (a=b)))/\Fr w Y:=by
 obtain⟨aa,ca,Z,aC,ac,_⟩:=F.shape;obtain⟨ab,cb,aj,ak,ap,_⟩:=G.shape;subst Z aj;unfold maxLen at ac ap;generalize I:decide (a=b)=R;have z:=ad I;clear I;go_enter Tryz.func115, Tryz.ntmps115;by_cases o:a.length=b.length
 · have J:=ad o;rw [<- o];clear o ak;go_wp2_with fail;go_loopw [13] (fun A wr=>∃ i:Nat,i<=a.length/\A=N i/\Hid (∀ j,j<i->a[j]?=b[j]?)/\Fr w wr) (fun A _=>a.length - (intOf A).toNat);case atStart=>exact⟨0,an _,rfl,fun j h=>absurd h (rt j),Fr.refl w⟩
   case round=>
    obtain⟨i,hi,rfl,K,d⟩:=hrel;by_cases L:i<a.length
    · have M:i<b.length:=(by have:=J.out;omega);obtain⟨b1,a0,bd,a1,O⟩:=(F.fr d).cell1 Fk.u8 rfl i L;obtain⟨b2,a3,bf,a4,Q⟩:=(G.fr d).cell1 Fk.u8 rfl i M;have U:Hid (a[i]?=some a[i]):=bE L;have V:Hid (b[i]?=some b[i]):=bE M;generalize a[i]=x at *;generalize b[i]=y at *;have d1:wr.cell? ⟨b1,a0+i,none⟩=some (.int .u8 (x.toNat:Int)):=O;have d2:wr.cell? ⟨b2,a3+i,none⟩=some (.int .u8 (y.toNat:Int)):=Q;clear O Q;cases a1;cases a4;have i1:(0:Int)<=i:=(by omega);have i2:(i:Int)<a.length:=(by omega);by_cases q:x=y
      · subst q;go_wp2_with fail;go_quiet (fail);go_wp2_with fail;go_roundw
        case rel => exact ⟨i + 1, by omega, by go_num, fun j hj => by
         by_cases e : j = i;· subst e; rw [U.out, V.out]
         · exact K.out j (by omega), d.drewN _⟩
        case measure=>simp [intOf];omega
      · have hn:¬(x.toNat:Int)=y.toNat:=fun e=>q (eA.1 (by omega));have m:Hid (R=false):=(by show _=_;rw [<- z.out];refine aX fun e=>q ?_;have X:=U.out;rw [e,V.out]at X;exact(jy X).symm);clear q;go_wp2_with fail;go_quiet (fail);go_wp2_with fail;go_ret;exact⟨by rw [m.out];rfl,d.drewN _⟩
    · have m:Hid (R=true):=by
        show _=_;rw [<- z.out];refine bt (qj fun j=>?_);by_cases hj:j<a.length;· exact K.out j (by omega)
        · rw [io (by omega),io (by have:=J.out;omega)]
      obtain rfl:i=a.length:=(by omega);have bv:¬((a.length:Int)<a.length):=(by omega);go_wp2_with fail;go_ret;exact⟨by rw [m.out];rfl,d⟩
 · have m:Hid (R=false):=(by show _=_;rw [<- z.out];exact aX fun e=>o (by rw [e]));rw [m.out];have bx:¬(a.length:Int)=b.length:=(by omega);go_wp2_with fail;go_ret;exact⟨rfl,Fr.refl w⟩
theorem KW(l:List UInt8)(h:4<=l.length):bF l=decide (l.drop (l.length - 4)=lx (fU (l.take (l.length - 4)))):=by
 have e:fV (l.take (l.length - 4))=l.take (l.length - 4)++lx (fU (l.take (l.length - 4))):=rfl;unfold bF;rw [bt h,oW,e];generalize lx (fU (l.take (l.length - 4)))=t;rw [vG,fx,fx];constructor;· intro d;have:=gS (List.drop (l.length - 4)) d;rw [List.drop_append_of_le_length (by rw [aG];omega),tx (by rw [aG];omega),kI]at this;exact this.symm
 · intro d;rw [<- d,j9]
theorem oQ (v : Value) (l : List UInt8) (w : World) (z : ai w eB v l) (hn : l.length ≤ 1000000) (ht : bK w) :
    Calls Tryz.prog 80 #[v] w fun e L=>∃ u,e=.returned (.tuple #[u,.int .i64 (bP l:Int)])/\Ow L w.heap.size eB u (aS l)/\Fr w L:=by
  obtain⟨a0,a4,rfl,a5,ac,_⟩:=z.shape;unfold maxLen at ac;by_cases M:l.length<4;· have B:bF l=false:=(by unfold bF;rw [aX (by omega),Bool.false_and]);have d:Hid (bP l=1):=(by show _=_;unfold bP;rw [B];simp [M]);have o:Hid (aS l=[]):=(by show _=_;unfold aS;rw [B];simp);rw [o.out];have hw:IntKind.i64.wrap ((l.length:Int) - 4)=(l.length:Int) - 4:=aw _ (by omega);have a6:(l.length:Int) - 4<0:=(by omega);rw [d.out];clear B d o;go_enter Tryz.func80, Tryz.ntmps80;go_wp2_with fail;go_ret2;exact⟨_,rfl,Ow.nil,Fr.refl w⟩
  · obtain⟨n,D⟩:∃ n,n=l.length - 4:=⟨_,rfl⟩;have O:n<=l.length:=(by omega);obtain⟨f1,f2,ba,Q⟩:=iy eB 22 Tryz.underlying22 z n O;obtain⟨bb,F⟩:=gD eB 22 Tryz.underlying22 z n O;have G:=KW l (by omega);rw [<- D]at G;have hw:IntKind.i64.wrap ((l.length:Int) - 4)=(n:Int):=(by rw [aw _ (by omega)];omega);have bc:¬(n:Int)<0:=(by omega);have U:(l.take n).length=n:=(by rw [aG];omega);have V:=ad (fun W (h:Fr w W)=>Ex _ (l.take n) W (F.fr h) (ht.fr h));have X:=ad (Am (fU (l.take n)) (wl _));have I:=ad (fun W v' (h:Fr w W) (h2:ai W eB v' (lx (fU (l.take n))))=>zf _ v' _ _ W (Q.fr h) h2);have ap:=ad (fun W (h:Fr w W)=>jT _ (l.take n) W (F.fr h) (by rw [U];omega));have d:Hid (bP l=if bF l then 0 else 5):=(by show _=_;unfold bP;simp [M]);have o:Hid (aS l=if bF l then l.take n else []):=(by show _=_;rw [D];rfl);rw [<- G]at I;rw [d.out,o.out];clear d o G z F Q U D;generalize fU (l.take n)=s at *;generalize bF l=R at *;generalize l.take n=q at *;generalize l.length - n=m at *;go_enter Tryz.func80, Tryz.ntmps80;go_wp2_with fail
    go_region_held3 (fun _ => True) (first | trivial | go_keep) ((first
      | (go_at_call 63; refine (V.out _ (Fr.refl w).drew).mono ?_; rintro e w1 ⟨rfl, J⟩)
      | (go_at_call 62; refine (X.out _).mono ?_; rintro e w2 ⟨v2, rfl, Y, K⟩)
      | (go_at_call 115; refine (I.out _ _ (((Fr.refl w).drew.trans J).trans K) Y.see).mono ?_; rintro e w3 ⟨rfl, Z⟩)))
    have A:Fr w w3:=(((Fr.refl w).drew.trans J).trans K).trans Z;clear Y J K Z V X I;cases R;· go_wp2_with fail;go_ret2;exact⟨_,rfl,Ow.nil,A⟩
    · go_wp2_with fail;refine(ap.out _ A).mono ?_;rintro e w4 ⟨v4,rfl,aa,a1⟩;obtain⟨p4,z4,rfl⟩:=aa.shape';go_wp2_with fail;go_ret2;exact⟨_,rfl,aa.rebase A.size,A.trans a1⟩
structure kZ (w:World) (B base:Nat) (v:Value) (l:List UInt8):Prop where
 own:Ow w base eB v l
 top:∀ k,v.ownBlock=some k->k<B
theorem kZ.see{w:World}{B base:Nat}{v:Value}{l:List UInt8}(h:kZ w B base v l):ai w eB v l:=h.own.see
theorem kZ.shape'{w:World}{B base:Nat}{v:Value}{l:List UInt8}(h:kZ w B base v l):∃ a d,v=.slice a l.length d:=h.own.shape'
theorem kZ.fr{w d:World}{B base:Nat}{v:Value}{l:List UInt8}(h:kZ w B base v l)(e:Fr w d):kZ d B base v l:=⟨h.own.fr e,h.top⟩
theorem kZ.chg{w d:World}{B base:Nat}{v:Value}{l:List UInt8}{G:Nat->Prop}(h:kZ w B base v l)(e:ah G w d)(m:∀ k,v.ownBlock=some k->¬G k):kZ d B base v l:=⟨h.own.chg e m,h.top⟩
theorem kZ.ne_cells{w:World}{B base:Nat}{v:Value}{l:List UInt8}(h:kZ w B base v l){b:Nat}{d:Array Value}{T:TypeId}{f:Nat × Nat}(e:w.heap[b]?=some (.cells d T f))(m:T≠(eB:au Tryz.prog UInt8).e):v.ownBlock≠some b:=h.own.ne_cells e m
structure ar (w:World) (T:TypeId) (B base:Nat) (l:List UInt8) (n er:Nat):Prop where
 h:∃ v,w.heap[B]?=some (.cells #[v,N n,.int .i64 (er:Int)] T (0,0))/\kZ w B base v l
 le:n<=l.length
theorem ar.behind{w d:World}{B base n m b:Nat}{T:TypeId}{l:List UInt8}{v v':Value}{xs A:List UInt8}(h:ar w T B base l n m)(o:Ow w b eB v xs)(q:dg b eB A w v v' d)(I:B<b):ar d T B base l n m:=by
 obtain⟨⟨x,D,z⟩,F⟩:=h;refine⟨⟨x,q.chg'.heap D (fun e=>?_),z.chg q.chg' (fun k G e=>?_)⟩,F⟩;· have:=(o.lt _ e).1;omega
 · have J:=z.top k G;have K:=(o.lt _ e).1;omega
theorem ar.fr{w d:World}{T:TypeId}{B base n e:Nat}{l:List UInt8}(h:ar w T B base l n e)(m:Fr w d):ar d T B base l n e:=by
 obtain⟨⟨v,o,q⟩,z⟩:=h;exact⟨⟨v,m.heap o,q.fr m⟩,z⟩
theorem m8(v:Value)(l:List UInt8)(w:World)(d:ai w eB v l)(A:l.length<=1000000) :
  Calls Tryz.prog 47 #[v] w fun e m=>∃ B,e=.returned (.pointer (some ⟨B,0,none⟩))/\ar m 130 B w.heap.size l 0 0/\Fr w m/\w.heap.size<=B:=by
 have D:=ad (jT v l w d A);obtain⟨G,I,rfl,_⟩:=d.shape;clear d;go_enter Tryz.func47, Tryz.ntmps47;go_wp2_with fail;refine(D.out).mono ?_;rintro e o ⟨u,rfl,h,q⟩;obtain⟨p,z,rfl⟩:=h.shape';go_wp2_with fail;go_ret;exact⟨o.heap.size,rfl,⟨⟨_,a9 _ _ _ rfl,h.fr ((Fr.refl o).alloc _),fun k F=>(h.lt k F).2⟩,an _⟩,q.alloc _,q.size⟩
theorem ar.box{w d:World}{T m:TypeId}{B base n o g:Nat}{l:List UInt8}{A:Array Value}{f:Nat × Nat}(h:ar w T B base l n o)(D:w.heap[g]?=some (.cells A m f))(F:m≠(eB:au Tryz.prog UInt8).e)(G:B≠g)(q:ah (fun k=>k=g) w d):ar d T B base l n o:=by
 obtain⟨⟨v,I,z⟩,J⟩:=h;exact⟨⟨v,q.heap I G,z.chg q (fun k K e=>z.ne_cells D F (by rw [K,e]))⟩,J⟩
def rR(W:World)(z:Nat)(d e h v3 m o:Value):World:=(((((W.setCell ⟨z,0,none⟩ d).setCell ⟨z,1,none⟩ e).setCell ⟨z,2,none⟩ h).setCell ⟨z,3,none⟩ v3).setCell ⟨z,4,none⟩ m).setCell ⟨z,5,none⟩ o
theorem IH{T:TypeId}{W:World}{z:Nat}{O M F D B A:Value}(d e m v3 o q:Value)(h:W.heap[z]?=some (.cells #[O,M,F,D,B,A] T (0,0))):(rR W z d e m v3 o q).heap[z]?=some (.cells #[d,e,m,v3,o,q] T (0,0))/\ah (fun k=>k=z) W (rR W z d e m v3 o q):=by
  unfold rR;have Q:(W.setCell ⟨z,0,none⟩ d).heap[z]?=some (.cells #[d,M,F,D,B,A] T (0,0)):=a8 h 0 d;have R:=ao W ⟨z,0,none⟩ d;generalize W.setCell ⟨z,0,none⟩ d=G at *;have U:(G.setCell ⟨z,1,none⟩ e).heap[z]?=some (.cells #[d,e,F,D,B,A] T (0,0)):=a8 Q 1 e;have V:=ao G ⟨z,1,none⟩ e;generalize G.setCell ⟨z,1,none⟩ e=I at *;have X:(I.setCell ⟨z,2,none⟩ m).heap[z]?=some (.cells #[d,e,m,D,B,A] T (0,0)):=a8 U 2 m;have c2:=ao I ⟨z,2,none⟩ m;generalize I.setCell ⟨z,2,none⟩ m=J at *;have Y:(J.setCell ⟨z,3,none⟩ v3).heap[z]?=some (.cells #[d,e,m,v3,B,A] T (0,0)):=a8 X 3 v3;have Z:=ao J ⟨z,3,none⟩ v3;generalize J.setCell ⟨z,3,none⟩ v3=K at *;have h4:(K.setCell ⟨z,4,none⟩ o).heap[z]?=some (.cells #[d,e,m,v3,o,A] T (0,0)):=a8 Y 4 o;have c4:=ao K ⟨z,4,none⟩ o;generalize K.setCell ⟨z,4,none⟩ o=L at *;have h5:(L.setCell ⟨z,5,none⟩ q).heap[z]?=some (.cells #[d,e,m,v3,o,q] T (0,0)):=a8 h4 5 q;have c5:=ao L ⟨z,5,none⟩ q;generalize L.setCell ⟨z,5,none⟩ q=W5 at *;exact⟨h5,((((R.trans V fun _ _ h=>h).trans c2 fun _ _ h=>h).trans Z fun _ _ h=>h).trans c4 fun _ _ h=>h).trans c5 fun _ _ h=>h⟩
theorem wM(B base n A:Nat)(l:List UInt8)(w:World)(D:ar w 130 B base l n A) :
  Calls Tryz.prog 123 #[.pointer (some ⟨B,0,none⟩)] w fun e q=>∃ a d,e=.returned (.slice a (l.length - n) d)/\ai q eB (.slice a (l.length - n) d) (l.drop n)/\Fr w q:=by
 obtain⟨⟨v,h,o⟩,F⟩:=D;obtain⟨I,d,rfl⟩:=o.shape';obtain⟨J,K,L,z⟩:=iy eB 22 Tryz.underlying22 o.see n F;have M:=af h 0 rfl;have O:=af h 1 rfl;have G:=ad z;clear h o z;generalize l.length - n=m at *;go_enter Tryz.func123, Tryz.ntmps123;go_wp2_with fail;go_quiet (fail);go_wp2_with fail;go_ret;exact⟨_,_,rfl,G.out.fr ((Fr.refl w).drewN _),(Fr.refl w).drewN _⟩
theorem iE(B base n d:Nat)(l:List UInt8)(w:World)(m:ar w 130 B base l n d) :
  Calls Tryz.prog 84 #[.pointer (some ⟨B,0,none⟩)] w fun e o=>e=.returned (.int .i64 (d:Int))/\w=o:=by
 obtain⟨⟨v,h,q⟩,z⟩:=m;have c2:=af h 2 rfl;clear h q;go_enter Tryz.func84, Tryz.ntmps84;go_wp2_with fail;go_ret;exact⟨rfl,rfl⟩
theorem Hf(d o k:Nat)(v:Value)(l:List UInt8)(w:World)(h:w.heap[d]?=some (.cells #[N k] 3 (0,0)))(m:ai w eB v l)(z:l.length<k) :
  Calls Tryz.prog 165 #[v,.pointer (some ⟨d,0,none⟩),.pointer (some ⟨o,0,none⟩)] w fun e q=>e=.returned (.tuple #[.int .i64 0,.int .i64 1])/\w=q:=by
 obtain⟨A,B,rfl,_⟩:=m.shape;have D:=af h 0 rfl;have F:¬(k:Int)<0:=by omega
 have G:(l.length:Int)<k:=by omega
 clear m h;go_enter Tryz.func165, Tryz.ntmps165;go_wp2_with fail;go_ret2;exact⟨rfl,rfl⟩
theorem He(m d k:Nat)(v Q:Value)(l:List UInt8)(w:World)(J:w.heap[m]?=some (.cells #[N k] 3 (0,0)))(K:w.heap[d]?=some (.cells #[Q] 22 (0,0)))(R:m≠d)(D:ai w eB v l)(U:k<=l.length)(hl:l.length<=1000000) :
  Calls Tryz.prog 165 #[v,.pointer (some ⟨m,0,none⟩),.pointer (some ⟨d,0,none⟩)] w fun e F=>e=.returned (.tuple #[N k,.int .i64 0])/\∃ u,F.heap[d]?=some (.cells #[u] 22 (0,0))/\Ow F w.heap.size eB u (l.take k)/\ah (fun b=>b=d) w F:=by
 obtain⟨a0,ak,rfl,_⟩:=D.shape;obtain⟨ap,L⟩:=gD eB 22 Tryz.underlying22 D k U;have V:=af J 0 rfl;have h1:¬(k:Int)<0:=by omega
 have h2:¬(l.length:Int)<k:=by omega
 have M:=ad (jT _ (l.take k) w L (by rw [aG];omega));have a2:d<w.heap.size:=(aM.1 K).1;clear D L;generalize l.take k=q at *;go_enter Tryz.func165, Tryz.ntmps165;go_wp2_with fail;refine(M.out).mono ?_;rintro e G ⟨u,rfl,o,I⟩;obtain⟨p,z,rfl⟩:=o.shape';have A:=I.heap K;have O:=I.heap J;have d0:=af A 0 rfl;have z0:=al A 0;have B:=ao G ⟨d,0,none⟩ (.slice p q.length z);have X:=a8 A 0 (.slice p q.length z);have Y:=B.heap O R;have e0:(G.setCell ⟨d,0,none⟩ (.slice p q.length z)).cell? ⟨m,0,none⟩=some (N k):=by rw [aA Y];rfl
 have Z:=o.chg B (fun i hi e=>by have h8:=(o.lt i hi).1;have e:i=d:=e;omega);have ab:ah (fun b=>b=d) w (G.setCell ⟨d,0,none⟩ (.slice p q.length z)):=(I.chg _).trans B fun _ _ h=>h;clear o B O A M V;go_wp2_with fail;go_ret2;exact⟨rfl,_,X,Z,ab⟩
theorem JD(B base n k G d:Nat)(Q:Value)(l:List UInt8)(w:World)(K:ar w 130 B base l n 0)(R:w.heap[G]?=some (.cells #[N k] 3 (0,0)))(I:w.heap[d]?=some (.cells #[Q] 22 (0,0)))(ap:G≠d)(hk:n+k<=l.length)(hl:l.length<=1000000)(hb:base<=w.heap.size) :
  Calls Tryz.prog 116 #[.pointer (some ⟨B,0,none⟩),.func (.func 165) #[] #[.pointer (some ⟨G,0,none⟩),.pointer (some ⟨d,0,none⟩)]] w fun e J=>e=.returned (.bool true)/\∃ u,J.heap[d]?=some (.cells #[u] 22 (0,0))/\Ow J w.heap.size eB u ((l.drop n).take k)/\ar J 130 B base l (n+k) 0/\ah (fun b=>b=d\/b=B) w J:=by
 have U:=ad (iE B base n 0 l w K);have V:=ad (wM B base n 0 l w K);have a0:(l.drop n).length=l.length - n:=aU ..;have X:=ad (fun W v (Y:Fr w W) (hs:ai W eB v (l.drop n))=>He G d k v Q (l.drop n) W (Y.heap R) (Y.heap I) ap hs (by omega) (by omega));obtain⟨⟨v,o,L⟩,bd⟩:=K;have Z:B≠d:=fun e=>by rw [e,I]at o;cases o
 have bf:B<w.heap.size:=(aM.1 o).1;have bk:d<w.heap.size:=(aM.1 I).1;have a2:=L.ne_cells o (by decide);have a3:=L.ne_cells I (by decide);have bl:IntKind.i64.wrap ((n:Int)+k)=(n:Int)+k:=aw _ (by omega);clear R a0;generalize (l.drop n).take k=q at *;generalize l.length - n=m at *;go_enter Tryz.func116, Tryz.ntmps116;go_wp2_with fail;refine(U.out).mono ?_;rintro e w1 ⟨rfl,rfl⟩;go_wp2_with fail;refine(V.out).mono ?_;rintro e w2 ⟨a,bs,rfl,aa,z⟩;have ab:=ad (X.out w2 _ z aa);go_wp2_with fail;refine(ab.out).mono ?_;rintro e w3 ⟨rfl,u,aj,M,O⟩;have A:=O.heap (z.heap o) Z;have ak:=(L.fr z).chg O (fun i D e=>a3 (by rw [D,show i=d from e]));have c1:=af A 1 rfl;have z1:=al A 1;have F:=ao w3 ⟨B,1,none⟩ (.int .i64 ((n:Int)+k));have a5:=a8 A 1 (.int .i64 ((n:Int)+k));have a6:=F.heap aj (fun e=>Z e.symm);have a7:=M.chg F (fun i D e=>(M.ne_cells A (by decide)) (by rw [D,show i=B from e]));have aC:=ak.chg F (fun i D e=>a2 (by rw [D,show i=B from e]));have ba:ah (fun b=>b=d\/b=B) w (w3.setCell ⟨B,1,none⟩ (.int .i64 ((n:Int)+k))):=((z.chg _).trans (O.mono fun _ _ h=>.inl h) fun _ _ h=>h).trans F fun _ _ h=>.inr h;clear U V X ab aa aj M A ak F;go_wp2_with fail;go_ret;exact⟨rfl,u,a6,a7.rebase z.size,⟨⟨v,a5,aC⟩,hk⟩,ba⟩
theorem yW(B base n k:Nat)(l:List UInt8)(w:World)(m:ar w 130 B base l n 0)(M:n+k<=l.length)(O:l.length<=1000000)(Q:base<=w.heap.size) :
  Calls Tryz.prog 119 #[.pointer (some ⟨B,0,none⟩),N k] w fun e o=>∃ u,e=.returned u/\Ow o w.heap.size eB u ((l.drop n).take k)/\ar o 130 B base l (n+k) 0/\ah (fun b=>b=B) w o:=by
 have Z:∀ (D:Fn) (first F:Array Value) (w:World),(Instr.makeFunc D first F).run Tryz.prog w=.ok (.func D first F) w:=fun _ _ _ _=>rfl;have aa:B<w.heap.size:=by obtain⟨⟨v,R,_⟩,_⟩:=m;exact(aM.1 R).1
 have G:((w.alloc (.cells #[N k] 3)).alloc (.cells #[.slice none 0 0] 22)).heap[w.heap.size]?=some (.cells #[N k] 3 (0,0)):=by rw [ig _ _ _ (by simp),a9 _ _ _ rfl]
 have I:((w.alloc (.cells #[N k] 3)).alloc (.cells #[.slice none 0 0] 22)).heap[w.heap.size+1]?=some (.cells #[.slice none 0 0] 22 (0,0)):=a9 _ _ _ (by simp);have d:Fr w ((w.alloc (.cells #[N k] 3)).alloc (.cells #[.slice none 0 0] 22)):=((Fr.refl w).alloc _).alloc _;have J:=ad (JD B base n k w.heap.size (w.heap.size+1) (.slice none 0 0) l _ (m.fr d) G I (by omega) M O (az Q d.size));have U:w.heap.size<=((w.alloc (.cells #[N k] 3)).alloc (.cells #[.slice none 0 0] 22)).heap.size:=d.size;clear G I m;generalize (l.drop n).take k=q at *;go_enter Tryz.func119, Tryz.ntmps119;go_wp2_with fail;refine(J.out).mono ?_;rintro e V ⟨rfl,u,K,A,hC,L⟩;have c1:=af K 0 rfl;have X:ah (fun b=>b=B) w V:=(d.chg _).trans (G':=fun b=>b=w.heap.size+1\/b=B) L fun i hi h=>by
  rcases h with h | h;· omega
  · exact h
 have Y:=A.rebase U;obtain⟨p,z,rfl⟩:=A.shape';clear J K A L;go_wp2_with fail;go_ret;exact⟨_,rfl,Y,hC,X⟩
theorem vg(B base n:Nat)(l:List UInt8)(w:World)(h:ar w 130 B base l n 0)(A:n+1<=l.length)(D:l.length<=1000000)(F:base<=w.heap.size) :
  Calls Tryz.prog 82 #[.pointer (some ⟨B,0,none⟩)] w fun e m=>e=.returned (.int .u8 ((l.getD n 0).toNat:Int))/\ar m 130 B base l (n+1) 0/\ah (fun b=>b=B) w m:=by
 have d:=ad (yW B base n 1 l w h A D F);have o:(l.drop n).take 1=[l.getD n 0]:=by rw [cZ l n 0 (by omega),ip (by omega)];rfl
 rw [o]at d;clear o h;generalize l.getD n 0=x at *;go_enter Tryz.func82, Tryz.ntmps82;go_wp2_with fail;refine(d.out).mono ?_;rintro e G ⟨u,rfl,q,hC,I⟩;obtain⟨b,J,K,rfl,z⟩:=q.see.cell1 Fk.u8 rfl 0 (by simp);have L:G.cell? ⟨b,J,none⟩=some (.int .u8 (x.toNat:Int)):=z;clear q z d;go_wp2_with fail;go_ret;exact⟨rfl,hC,I⟩
theorem xx(a b:Nat)(d:a<18446744073709551616)(e:b<18446744073709551616):bits .or .u64 (a:Int) (b:Int)=((a ||| b:Nat):Int):=by
 have h:a ||| b<2 ^ 64:=vo (by omega) (by omega);show IntKind.u64.wrap ((BitVec.ofInt 64 (a:Int) ||| BitVec.ofInt 64 (b:Int)).toNat:Int)=_;rw [BitVec.toNat_or,ek 64 a (by omega),ek 64 b (by omega)];exact eu _ (by omega)
theorem vf (B base n k : Nat) (l : List UInt8) (w : World) (D : ar w 130 B base l n 0) (a6 : 1 ≤ k) (a7 : k ≤ 8) (X : n + k ≤ l.length) (Y : l.length ≤ 1000000) (Z : base ≤ w.heap.size) :
    Calls Tryz.prog 168 #[.pointer (some ⟨B,0,none⟩),N k] w fun e F=>e=.returned (.int .u64 (cK ((l.drop n).take k):Int))/\ar F 130 B base l (n+k) 0/\ah (fun b=>b=B) w F:=by
  have G:=ad (yW B base n k l w D X Y Z);have m:((l.drop n).take k).length=k:=(by rw [aG,aU];omega);have I:=ad m;have h1:¬(k:Int)<1:=(by omega);have h8:¬(8:Int)<k:=(by omega);have aa:=ad (fun i h=>Mx ((l.drop n).take k) i h);have J:Hid (cK (((l.drop n).take k).take k)=cK ((l.drop n).take k)):=(by show _=_;rw [eC (by omega)]);have HZ:Hid (cK (((l.drop n).take k).take 0)=0):=rfl;have K:Hid (∀ i,i<=k->cK (((l.drop n).take k).take i)<2 ^ (8*i)):=fun i L=>(by have:=pN (((l.drop n).take k).take i);rw [aG,m,gx L,show(256:Nat)=2 ^ 8 from rfl,<- Nat.pow_mul]at this;exact this);clear D m;generalize (l.drop n).take k=q at *;go_enter Tryz.func168, Tryz.ntmps168;go_wp2_with fail;refine(G.out).mono ?_;rintro e w1 ⟨u,rfl,o,hC,aj⟩;obtain⟨p,z,M⟩:=o.shape';rw [I.out]at M;subst M;have HO:=ad o.see;clear o G;go_wp2_with fail;go_loop [5,20] (fun xv A=>∃ i:Nat,i<=k/\A=N i/\xv=.int .u64 (cK (q.take i):Int)) (fun _ A=>k - (intOf A).toNat);case atStart=>exact⟨0,an _,rfl,by rw [HZ.out];rfl⟩
  case round=>
    obtain⟨i,L,rfl,rfl⟩:=hrel;by_cases av:i<k
    · have O:i<q.length:=(by rw [I.out];exact av);obtain⟨b,a0,cp,Q,R⟩:=HO.out.cell1 Fk.u8 rfl i O;simp only [go]at Q;obtain⟨rfl,_,rfl⟩:=Q;have d0:w1.cell? ⟨b,a0+i,none⟩=some (.int .u8 (q[i].toNat:Int)):=R;clear R;have i1:(i:Int)<k:=(by omega);have i2:(0:Int)<=i:=(by omega);have U:=ad (aa.out i O);have a1:=K.out i (by omega);have a2:=K.out (i+1) (by omega);have bl:=q[i].toNat_lt;generalize q[i].toNat=d at *;have V:(2:Nat) ^ (8*i)<=2 ^ 56:=ep (by omega) (by omega);have a3:(2:Nat) ^ 56=72057594037927936:=(by decide);have a4:d*2 ^ (8*i)<=255*2 ^ 56:=bJ (by omega) V;have HB:Hid (bits .or .u64 ((cK (q.take i):Nat):Int) (IntKind.u64.wrap ((d:Int)*2 ^ (8*i)))=((cK (q.take (i+1)):Nat):Int)):=(by show _=_;rw [show(d:Int)*2 ^ (8*i)=((d*2 ^ (8*i):Nat):Int) by simp,eu _ (by omega),xx _ _ (by omega) (by omega),U.out]);clear V a3 a4 a1 a2 U;go_wp2_with fail;go_round;case rel=>exact⟨i+1,by omega,by go_num,by rw [HB.out]⟩
      case measure=>simp [intOf];omega
    · obtain rfl:k=i:=(by omega);have bm:¬((k:Int)<k):=(by omega);have HA:=ad J.out;rw [J.out];go_wp2_with fail;go_ret;exact⟨rfl,hC,aj⟩
theorem AV (v : Value) (l : List UInt8) (w : World) (G : ai w eB v l) (hl : l.length ≤ 1000000) :
    Calls Tryz.prog 164 #[v] w fun e w'=>e=.returned (.tuple #[.int .u64 ((bO l).1:Int),N (bO l).2.1,.int .i64 ((bO l).2.2:Int)])/\w=w':=by
  obtain⟨a0,bm,rfl,_⟩:=G.shape;have HS:=ad G;have Q:Hid (bO l=fI 0 0 (l.drop 0)):=rfl;clear G;generalize bO l=R at *;go_enter Tryz.func164, Tryz.ntmps164;go_wp2_with fail;go_loop [2,9] (fun xv I=>∃ i x:Nat,i<=l.length/\i<=9/\I=N i/\xv=.int .u64 (x:Int)/\Hid (x<128 ^ i)/\Hid (R=fI i x (l.drop i))) (fun _ I=>l.length - (intOf I).toNat);case atStart=>exact⟨0,0,an _,by omega,rfl,rfl,by show 0<_;decide,Q.out⟩
  case round=>
    obtain⟨i,x,hi,U,rfl,rfl,z,o⟩:=hrel;clear Q;by_cases V:i<l.length
    · obtain⟨b,a1,cp,hv,X⟩:=HS.out.cell1 Fk.u8 rfl i V;cases hv;have d0:w.cell? ⟨b,a1+i,none⟩=some (.int .u8 (l[i].toNat:Int)):=X;have A:=ad (Lo l i x V);have Y:=l[i].toNat_lt;clear X;generalize l[i].toNat=c at *;have i1:(i:Int)<l.length:=(by omega);have i2:(0:Int)<=i:=(by omega);by_cases m:(i=9/\¬c=1)\/(0<i/\c=0)
      · have d:Hid (R=(0,0,2)):=(by show _=_;rw [o.out,A.out,ag m]);clear o A z;by_cases B:i=9
        · subst B;by_cases h1:c=1;· omega
          · have J:¬(c:Int)=1:=(by omega);clear m h1;go_wp2_with fail;go_ret3;rw [d.out];exact⟨rfl,rfl⟩
        · have k0:¬(i:Int)=9:=(by omega);have J:(0:Int)<i:=(by omega);have Z:c=0:=(by omega);subst Z;clear m B;go_wp2_with fail;go_ret3;rw [d.out];exact⟨rfl,rfl⟩
      · have K:¬(i=9/\¬c=1):=fun h=>m (.inl h);have L:=Lm i c x U Y z.out K;have a5:=Qz c Y;have F:=ad (JZ i);have a6:c % 128<128:=kH _ (by omega);have w1:IntKind.u64.wrap ((c % 128:Nat):Int)=((c % 128:Nat):Int):=eu _ (by omega);have w2:IntKind.i64.wrap (7*(i:Int))=7*(i:Int):=aw _ (by omega);have w3:IntKind.u64.wrap (((c % 128:Nat):Int)*2 ^ (7*i))=((c % 128*128 ^ i:Nat):Int):=(by rw [eu _ (by rw [show((c % 128:Nat):Int)*2 ^ (7*i)=((c % 128*2 ^ (7*i):Nat):Int) by simp,<- F.out];omega),F.out];simp);have w4:bits .or .u64 (x:Int) ((c % 128*128 ^ i:Nat):Int)=((x+c % 128*128 ^ i:Nat):Int):=(by rw [xx _ _ (by omega) (by omega),F.out,ut _ _ _ (by rw [<- F.out];exact z.out)]);have s1:¬(7*(i:Int))<0:=(by omega);have s2:(7*(i:Int)).toNat=7*i:=(by omega);by_cases B:i=9;· have bd:c=1:=(by omega);have aa:=z.out;subst B bd;have M:(128:Nat) ^ 9=9223372036854775808:=(by decide);rw [M]at aa;have w5:bits .or .u64 (x:Int) (IntKind.u64.wrap (IntKind.u64.wrap (bits .andNot .u8 1 128)*9223372036854775808))=((x+9223372036854775808:Nat):Int):=(by rw [show IntKind.u64.wrap (IntKind.u64.wrap (bits .andNot .u8 1 128)*9223372036854775808)=((1*2 ^ 63:Nat):Int)from by decide +kernel,xx _ _ (by omega) (by decide),ut _ _ _ (by omega)]);have d:Hid (R=(x+9223372036854775808,10,0)):=(by show _=_;rw [o.out,A.out,ae m,ag (by omega),M]);have HW:=ad w5;clear w1 w2 w3 w4 w5 s1 s2 a5 a6 L m K o A z aa M;go_wp2_with fail;go_ret3;rw [d.out,HW.out];exact⟨rfl,rfl⟩
        have k0:¬(i:Int)=9:=(by omega);have ac:=ad L.1;have b1:i<=8:=(by omega);have q:Hid (R=if c<128 then(x+c % 128*128 ^ i,i+1,0)else fI (i+1) (x+c % 128*128 ^ i) (l.drop (i+1))):=(by show _=_;rw [o.out,A.out,ae m]);have O:=ad m;clear o A m L K B U;generalize c % 128*128 ^ i=y at *;generalize aj:c % 128=cm at *;have b3:=ad aj;clear aj;by_cases b4:0<i
        · have J:(0:Int)<i:=(by omega);have Z:¬(c:Int)=0:=(by have:=O.out;omega);clear O;by_cases D:c<128;· have k3:(c:Int)<128:=(by omega);have d:Hid (R=(x+y,i+1,0)):=(by show _=_;rw [q.out,ag D]);clear q;go_wp2_with fail;go_ret3;rw [d.out];exact⟨by simp [N],rfl⟩
          · have k3:¬(c:Int)<128:=(by omega);have d:Hid (R=fI (i+1) (x+y) (l.drop (i+1))):=(by show _=_;rw [q.out,ae D]);clear q;go_wp2_with fail;go_round;case rel=>exact⟨i+1,x+y,by omega,by omega,by go_num,rfl,ac.out,d.out⟩
            case measure=>simp [intOf];omega
        · have J:¬(0:Int)<i:=(by omega);clear O;by_cases D:c<128;· have k3:(c:Int)<128:=(by omega);have d:Hid (R=(x+y,i+1,0)):=(by show _=_;rw [q.out,ag D]);clear q;go_wp2_with fail;go_ret3;rw [d.out];exact⟨by simp [N],rfl⟩
          · have k3:¬(c:Int)<128:=(by omega);have d:Hid (R=fI (i+1) (x+y) (l.drop (i+1))):=(by show _=_;rw [q.out,ae D]);clear q;go_wp2_with fail;go_round;case rel=>exact⟨i+1,x+y,by omega,by omega,by go_num,rfl,ac.out,d.out⟩
            case measure=>simp [intOf];omega
    · obtain rfl:i=l.length:=(by omega);have b5:¬((l.length:Int)<l.length):=(by omega);have d:Hid (R=(0,0,1)):=(by show _=_;rw [o.out,Lp l _ x (am _)]);clear o z;go_wp2_with fail;go_ret3;rw [d.out];exact⟨rfl,rfl⟩
theorem Bh(m:Value)(B base n d:Nat)(l:List UInt8)(w:World)(h:ar w 130 B base l n d)(z:¬d=0) :
  Calls Tryz.prog 116 #[.pointer (some ⟨B,0,none⟩),m] w fun e o=>e=.returned (.bool false)/\w=o:=by
 have q:=ad (iE B base n d l w h);have A:¬(d:Int)=0:=by omega
 clear h;go_enter Tryz.func116, Tryz.ntmps116;go_wp2_with fail;refine(q.out).mono ?_;rintro e D ⟨rfl,rfl⟩;go_wp2_with fail;go_ret;exact⟨rfl,rfl⟩
theorem JC(z:Nat)(A:List Value)(a0:(z=233/\∃ a,A=[a])\/(z=117/\∃ a b,A=[a,b])\/(z=165/\∃ a b,A=[a,b])\/(z=234/\∃ a b,A=[a,b]))(G:Nat->Prop)(Q:World->Prop)(B base n k d:Nat)(l:List UInt8)(w:World)(M:ar w 130 B base l n 0)
  (HT:Hid (∀ W v,Fr w W->ai W eB v (l.drop n)->Calls Tryz.prog z (v::A).toArray W fun e q=>e=.returned (.tuple #[N k,.int .i64 (d:Int)])/\Q q/\ah G W q))
  (hk:d=0->n+k<=l.length) (hG:∀ g,G g->g≠B/\∃ Y T f,w.heap[g]?=some (.cells Y T f)/\T≠5) (hl:l.length<=1000000) :
  Calls Tryz.prog 116 #[.pointer (some ⟨B,0,none⟩),.func (.func z) #[] A.toArray] w fun e q=>e=.returned (.bool (decide (d=0)))/\∃ o,Q o/\ah G w o/\ah (fun b=>b=B) o q/\ar q 130 B base l (if d=0 then n+k else n) d:=by
 have Z:=ad (iE B base n 0 l w M);have HR:=ad (wM B base n 0 l w M);obtain⟨⟨v,h1,O⟩,a1⟩:=M;have a2:¬G B:=fun h=>(hG B h).1 rfl;have a3:∀ i,v.ownBlock=some i->¬G i:=fun i F h=>by obtain⟨_,Y,T,f,h2,h3⟩:=hG i h;exact O.ne_cells h2 h3 F
 have ac:=O.ne_cells h1 (by decide);clear hG;generalize l.length - n=m at *;go_enter Tryz.func116, Tryz.ntmps116;go_wp2_with fail;refine(Z.out).mono ?_;rintro e w1 ⟨rfl,rfl⟩;go_wp2_with fail;refine(HR.out).mono ?_;rintro e R ⟨a,cp,rfl,aj,K⟩;have HX:Hid (Calls Tryz.prog z (.slice a m cp::A).toArray R (fun e q=>e=.returned (.tuple #[N k,.int .i64 (d:Int)])/\Q q/\ah G R q)):=HT.out R _ K aj;rcases a0 with⟨rfl,I,rfl⟩ | ⟨rfl,I,c2,rfl⟩ | ⟨rfl,I,c2,rfl⟩ | ⟨rfl,I,c2,rfl⟩;all_goals go_wp2_with fail
 all_goals refine(HX.out).mono ?_
 all_goals rintro e o ⟨rfl,hq,U⟩
 all_goals
  have D:=U.heap (K.heap h1) a2;have L:=(O.fr K).chg U a3;have av:ah G w o:=(K.chg _).trans U fun _ _ h=>h;clear Z HR HT HX aj;by_cases he:d=0;· subst he;have aC:=hk rfl;have bc:IntKind.i64.wrap ((n:Int)+k)=(n:Int)+k:=aw _ (by omega);have I:=af D 1 rfl;have z1:=al D 1;have J:=ao o ⟨B,1,none⟩ (.int .i64 ((n:Int)+k));have V:=a8 D 1 (.int .i64 ((n:Int)+k));have X:=L.chg J (fun i F e=>ac (by rw [F,show i=B from e]));clear L;go_wp2_with fail;go_ret;exact⟨rfl,o,hq,av,J,⟨v,V,X⟩,aC⟩
  · have bd:¬(d:Int)=0:=(by omega);have I:=af D 2 rfl;have z1:=al D 2;have J:=ao o ⟨B,2,none⟩ (.int .i64 (d:Int));have V:=a8 D 2 (.int .i64 (d:Int));have X:=L.chg J (fun i F e=>ac (by rw [F,show i=B from e]));clear L;go_wp2_with fail;go_ret;exact⟨rfl,o,hq,av,J,⟨v,V,X⟩,a1⟩
theorem uf(m:Nat)(o:List Value)(I:(m=233/\∃ a,o=[a])\/(m=117/\∃ a b,o=[a,b])\/(m=165/\∃ a b,o=[a,b])\/(m=234/\∃ a b,o=[a,b]))(G:Nat->Prop)(Q:World->Prop)(B base:Nat)(s:Cs)(r:Nat × Nat × Nat)(l:List UInt8)(w:World)(D:ar w 130 B base l s.at_ s.er)
  (HT:Hid (∀ W v,Fr w W->ai W eB v (l.drop s.at_)->Calls Tryz.prog m (v::o).toArray W fun e q=>e=.returned (.tuple #[N r.2.1,.int .i64 (r.2.2:Int)])/\Q q/\ah G W q))
  (hk:r.2.2=0->s.at_+r.2.1<=l.length) (hG:∀ g,G g->g≠B/\∃ J T f,w.heap[g]?=some (.cells J T f)/\T≠5) (hl:l.length<=1000000) :
  Calls Tryz.prog 116 #[.pointer (some ⟨B,0,none⟩),.func (.func m) #[] o.toArray] w fun e q=>e=.returned (.bool (decide (s.er=0/\r.2.2=0)))/\(¬s.er=0->w=q)/\∃ z,(s.er=0->Q z)/\ah G w z/\ah (fun b=>b=B) z q/\ar q 130 B base l (s.step r).at_ (s.step r).er:=by
 by_cases d:s.er=0
 · rw [d]at D;refine(JC m o I G Q B base s.at_ r.2.1 r.2.2 l w D HT hk hG hl).mono ?_;rintro e K ⟨rfl,z,L,M,O,A⟩;refine⟨by simp [d],fun h=>absurd d h,z,fun _=>L,M,O,?_⟩;unfold Cs.step;rw [ag d];by_cases F:r.2.2=0;· rw [ag F]at A ⊢;rw [F]at A;exact A
   · rw [ae F]at A ⊢;exact A
 · refine(Bh _ B base s.at_ s.er l w D d).mono ?_;rintro e K ⟨rfl,rfl⟩;refine⟨by simp [d],fun _=>rfl,w,fun h=>absurd h d,ah.refl _ _,ah.refl _ _,?_⟩;unfold Cs.step;rw [ae d];exact D
theorem Cw(d:Nat)(I:d<9223372036854775808)(v:Value)(l:List UInt8)(w:World)(o:ai w eB v l)(J:l.length<=1000000) :
  Calls Tryz.prog 118 #[v,N d] w fun e K=>e=.returned (.tuple #[N (ay d l).1,N (ay d l).2.1,.int .i64 ((ay d l).2.2:Int)])/\w=K:=by
 have z:=ad (AV v l w o J);have M:=xC l;have h:Hid (ay d l=if(bO l).2.2=0 then(if d<(bO l).1 then(0,0,6)else bO l)else(0,0,(bO l).2.2)):=rfl;obtain⟨O,Q,rfl,_⟩:=o.shape;clear o;generalize ay d l=R at *;generalize bO l=q at *;obtain⟨x,n,A⟩:=q;by_cases B:A=0
 · subst B;have U:¬(d:Int)<0:=(by omega);by_cases D:d<x;· have m:Hid (R=(0,0,6)):=(by show _=_;rw [h.out,ag rfl,ag D]);have F:(d:Int)<x:=(by omega);have V:=ad I;have L:IntKind.u64.wrap (d:Int)=(d:Int):=eu _ (by omega);clear h;go_enter Tryz.func118, Tryz.ntmps118;go_wp2_with fail;refine(z.out).mono ?_;rintro e G ⟨rfl,rfl⟩;go_wp2_with fail;go_ret3;rw [m.out];exact⟨rfl,rfl⟩
   · have m:Hid (R=(x,n,0)):=(by show _=_;rw [h.out,ag rfl,ae D]);have F:¬(d:Int)<x:=(by omega);have L:IntKind.u64.wrap (d:Int)=(d:Int):=eu _ (by omega);have X:IntKind.i64.wrap (x:Int)=(x:Int):=aw _ (by omega);clear h;go_enter Tryz.func118, Tryz.ntmps118;go_wp2_with fail;refine(z.out).mono ?_;rintro e G ⟨rfl,rfl⟩;go_wp2_with fail;go_ret3;rw [m.out];exact⟨rfl,rfl⟩
 · have m:Hid (R=(0,0,A)):=(by show _=_;rw [h.out];simp only;rw [ae B]);have F:¬(A:Int)=0:=(by omega);clear h;go_enter Tryz.func118, Tryz.ntmps118;go_wp2_with fail;refine(z.out).mono ?_;rintro e G ⟨rfl,rfl⟩;go_wp2_with fail;go_ret3;rw [m.out];exact⟨rfl,rfl⟩
theorem Ls(d:Nat)(z v:Value)(l:List UInt8)(w:World)(h:w.heap[d]?=some (.cells #[z] 38 (0,0)))(m:ai w eB v l)(A:l.length<=1000000) :
  Calls Tryz.prog 233 #[v,.pointer (some ⟨d,0,none⟩)] w fun e o=>e=.returned (.tuple #[N (bO l).2.1,.int .i64 ((bO l).2.2:Int)])/\o.heap[d]?=some (.cells #[.int .u64 ((bO l).1:Int)] 38 (0,0))/\ah (fun b=>b=d) w o:=by
 have B:=ad (AV v l w m A);have G:=af h 0 rfl;have I:=al h 0;have D:=ao w ⟨d,0,none⟩ (.int .u64 ((bO l).1:Int));have F:=a8 h 0 (.int .u64 ((bO l).1:Int));obtain⟨J,K,rfl,_⟩:=m.shape;clear m;generalize bO l=q at *;go_enter Tryz.func233, Tryz.ntmps233;go_wp2_with fail;refine(B.out).mono ?_;rintro e L ⟨rfl,rfl⟩;go_wp2_with fail;go_ret2;exact⟨rfl,F,D⟩
theorem MI(d:Nat)(B:d<9223372036854775808)(z h:Nat)(D v:Value)(l:List UInt8)(w:World)(F:w.heap[z]?=some (.cells #[N d] 3 (0,0)))(m:w.heap[h]?=some (.cells #[D] 3 (0,0)))(o:ai w eB v l)(G:l.length<=1000000) :
  Calls Tryz.prog 117 #[v,.pointer (some ⟨z,0,none⟩),.pointer (some ⟨h,0,none⟩)] w fun e A=>e=.returned (.tuple #[N (ay d l).2.1,.int .i64 ((ay d l).2.2:Int)])/\A.heap[h]?=some (.cells #[N (ay d l).1] 3 (0,0))/\ah (fun b=>b=h) w A:=by
 have I:=ad (Cw d B v l w o G);have L:=af F 0 rfl;have M:=af m 0 rfl;have O:=al m 0;have J:=ao w ⟨h,0,none⟩ (N (ay d l).1);have K:=a8 m 0 (N (ay d l).1);obtain⟨Q,R,rfl,_⟩:=o.shape;clear o;generalize ay d l=q at *;go_enter Tryz.func117, Tryz.ntmps117;go_wp2_with fail;refine(I.out).mono ?_;rintro e U ⟨rfl,rfl⟩;go_wp2_with fail;go_ret2;exact⟨rfl,K,J⟩
theorem ED(B base:Nat)(s:Cs)(l:List UInt8)(w:World)(A:ar w 130 B base l s.at_ s.er)(U:l.length<=1000000) :
  Calls Tryz.prog 198 #[.pointer (some ⟨B,0,none⟩)] w fun e K=>e=.returned (.int .u64 ((s.num l).1:Int))/\ar K 130 B base l (s.num l).2.at_ (s.num l).2.er/\ah (fun b=>b=B) w K:=by
 have ak:∀ (L:Fn) (first M:Array Value) (w:World),(Instr.makeFunc L first M).run Tryz.prog w=.ok (.func L first M) w:=fun _ _ _ _=>rfl;have ap:B<w.heap.size:=by obtain⟨⟨v,V,_⟩,_⟩:=A;exact(aM.1 V).1
 have F:(w.alloc (.cells #[.int .u64 0] 38)).heap[w.heap.size]?=some (.cells #[.int .u64 0] 38 (0,0)):=a9 _ _ _ rfl;have G:Fr w (w.alloc (.cells #[.int .u64 0] 38)):=(Fr.refl w).alloc _;have O:(l.drop s.at_).length<=1000000:=by rw [aU];omega
 have X:s.at_<=l.length:=A.le
 have m := ad (uf 233 [.pointer (some ⟨w.heap.size, 0, none⟩)] (.inl ⟨rfl, _, rfl⟩) (fun b => b = w.heap.size) (fun W => W.heap[w.heap.size]? = some (.cells #[.int .u64 ((bO (l.drop s.at_)).1 : Int)] 38 (0, 0))) B base s (bO (l.drop s.at_)) l _ (A.fr G)
  (ad fun W v Y Z => (Ls w.heap.size _ v _ W (Y.heap F) Z O)) (fun h => by have := xB _ h; rw [aU] at this; omega)
  (by intro g hg; obtain rfl : g = w.heap.size := hg; exact ⟨by omega, _, _, _, F, by decide⟩) U)
 have Q:Hid (s.num l=(s.val (bO (l.drop s.at_)),s.step (bO (l.drop s.at_)))):=rfl;have D:Hid (s.val (bO (l.drop s.at_))=if s.er=0/\(bO (l.drop s.at_)).2.2=0 then(bO (l.drop s.at_)).1 else 0):=rfl;rw [Q.out];clear F A O X Q;generalize s.step (bO (l.drop s.at_))=s2 at *;generalize s.val (bO (l.drop s.at_))=x2 at *;generalize bO (l.drop s.at_)=q at *;by_cases d:s.er=0/\q.2.2=0;· rw [bt d]at m;rw [ag d]at D;have h0:=ad d.1;clear d;go_enter Tryz.func198, Tryz.ntmps198;go_wp2_with fail;refine(m.out).mono ?_;rintro e I ⟨rfl,_,w2,hQ,z,o,hC⟩;have R:=o.heap (hQ h0.out) (by omega);have c1:=af R 0 rfl;have J:ah (fun b=>b=B) w I:=((G.chg _).trans (G':=fun b=>b=w.heap.size) z fun i hi h=>by omega).trans o fun i _ h=>h;clear m z o hQ R;go_wp2_with fail;go_ret;rw [D.out];exact⟨rfl,hC,J⟩
 · rw [aX d]at m;rw [ae d]at D;clear d;go_enter Tryz.func198, Tryz.ntmps198;go_wp2_with fail;refine(m.out).mono ?_;rintro e I ⟨rfl,_,w2,hQ,z,o,hC⟩;have J:ah (fun b=>b=B) w I:=((G.chg _).trans (G':=fun b=>b=w.heap.size) z fun i hi h=>by omega).trans o fun i _ h=>h;clear m z o hQ;go_wp2_with fail;go_ret;rw [D.out];exact⟨rfl,hC,J⟩
theorem nR(d:Nat)(Y:d<9223372036854775808)(B base:Nat)(s:Cs)(l:List UInt8)(w:World)(D:ar w 130 B base l s.at_ s.er)(Z:l.length<=1000000) :
  Calls Tryz.prog 81 #[.pointer (some ⟨B,0,none⟩),N d] w fun e L=>e=.returned (N (s.int l d).1)/\ar L 130 B base l (s.int l d).2.at_ (s.int l d).2.er/\ah (fun b=>b=B) w L:=by
 have a0:∀ (M:Fn) (first O:Array Value) (w:World),(Instr.makeFunc M first O).run Tryz.prog w=.ok (.func M first O) w:=fun _ _ _ _=>rfl;have a1:B<w.heap.size:=by obtain⟨⟨v,h1,_⟩,_⟩:=D;exact(aM.1 h1).1
 have Q:((w.alloc (.cells #[N d] 3)).alloc (.cells #[.int .i64 0] 3)).heap[w.heap.size]?=some (.cells #[N d] 3 (0,0)):=by rw [ig _ _ _ (by simp),a9 _ _ _ rfl]
 have G:((w.alloc (.cells #[N d] 3)).alloc (.cells #[.int .i64 0] 3)).heap[w.heap.size+1]?=some (.cells #[.int .i64 0] 3 (0,0)):=a9 _ _ _ (by simp);have I:Fr w ((w.alloc (.cells #[N d] 3)).alloc (.cells #[.int .i64 0] 3)):=((Fr.refl w).alloc _).alloc _;have R:(l.drop s.at_).length<=1000000:=by rw [aU];omega
 have ab:s.at_<=l.length:=D.le
 have o := ad (uf 117 [.pointer (some ⟨w.heap.size, 0, none⟩), .pointer (some ⟨w.heap.size + 1, 0, none⟩)] (.inr (.inl ⟨rfl, _, _, rfl⟩)) (fun b => b = w.heap.size + 1) (fun W => W.heap[w.heap.size + 1]? = some (.cells #[N (ay d (l.drop s.at_)).1] 3 (0, 0))) B base s (ay d (l.drop s.at_)) l _ (D.fr I)
  (ad fun W v U hs => (MI d Y w.heap.size (w.heap.size + 1) _ v _ W (U.heap Q) (U.heap G) hs R)) (fun h => by have := lH _ _ h; rw [aU] at this; omega)
  (by intro g hg; obtain rfl : g = w.heap.size + 1 := hg; exact ⟨by omega, _, _, _, G, by decide⟩) Z)
 have V:Hid (s.int l d=(s.val (ay d (l.drop s.at_)),s.step (ay d (l.drop s.at_)))):=rfl;have F:Hid (s.val (ay d (l.drop s.at_))=if s.er=0/\(ay d (l.drop s.at_)).2.2=0 then(ay d (l.drop s.at_)).1 else 0):=rfl;rw [V.out];clear Q G D R ab V;generalize s.step (ay d (l.drop s.at_))=s2 at *;generalize s.val (ay d (l.drop s.at_))=x2 at *;generalize ay d (l.drop s.at_)=q at *;by_cases m:s.er=0/\q.2.2=0;· rw [bt m]at o;rw [ag m]at F;have h0:=ad m.1;clear m;go_enter Tryz.func81, Tryz.ntmps81;go_wp2_with fail;refine(o.out).mono ?_;rintro e J ⟨rfl,_,w2,hQ,A,z,hC⟩;have X:=z.heap (hQ h0.out) (by omega);have c1:=af X 0 rfl;have K:ah (fun b=>b=B) w J:=((I.chg _).trans (G':=fun b=>b=w.heap.size+1) A fun i hi h=>by omega).trans z fun i _ h=>h;clear o A z hQ X;go_wp2_with fail;go_ret;rw [F.out];exact⟨rfl,hC,K⟩
 · rw [aX m]at o;rw [ae m]at F;clear m;go_enter Tryz.func81, Tryz.ntmps81;go_wp2_with fail;refine(o.out).mono ?_;rintro e J ⟨rfl,_,w2,hQ,A,z,hC⟩;have K:ah (fun b=>b=B) w J:=((I.chg _).trans (G':=fun b=>b=w.heap.size+1) A fun i hi h=>by omega).trans z fun i _ h=>h;clear o A z hQ;go_wp2_with fail;go_ret;rw [F.out];exact⟨rfl,hC,K⟩
theorem GT (d : Nat) (Q : d < 9223372036854775808) (G z : Nat) (v : Value) (l : List UInt8) (w : World) (R : w.heap[G]? = some (.cells #[N d] 3 (0, 0))) (A : w.heap[z]? = some (.cells #[S []] 9 (0, 0))) (o : ai w eB v l) (U : l.length ≤ 1000000) :
    Calls Tryz.prog 234 #[v,.pointer (some ⟨G,0,none⟩),.pointer (some ⟨z,0,none⟩)] w fun e I=>e=.returned (.tuple #[N (ed d l).2.1,.int .i64 ((ed d l).2.2:Int)])/\I.heap[z]?=some (.cells #[S (ed d l).1] 9 (0,0))/\ah (fun b=>b=z) w I:=by
  have B:=ad (Cw d Q v l w o U);have m0:=af R 0 rfl;have c0:=af A 0 rfl;have z0:=al A 0;have m:Hid (ed d l=if(ay d l).2.2=0 then(if l.length<(ay d l).2.1+(ay d l).1 then([],0,1)else((l.drop (ay d l).2.1).take (ay d l).1,(ay d l).2.1+(ay d l).1,0))else([],0,(ay d l).2.2)):=rfl;have F:=lH d l;obtain⟨V,X,rfl,_⟩:=o.shape;generalize ed d l=T at *;by_cases h:(ay d l).2.2=0
  · have J:=F h;rw [ag h]at m;have av:IntKind.i64.wrap ((l.length:Int) - ((ay d l).2.1:Int))=(l.length:Int) - ((ay d l).2.1:Int):=aw _ (by omega);by_cases D:l.length<(ay d l).2.1+(ay d l).1;· rw [ag D]at m;have Y:(l.length:Int) - ((ay d l).2.1:Int)<((ay d l).1:Int):=(by omega);clear o F J D;rw [h]at B;clear h;generalize (ay d l).1=x at *;generalize (ay d l).2.1=n at *;go_enter Tryz.func234, Tryz.ntmps234;go_wp2_with fail;refine(B.out).mono ?_;rintro e K ⟨rfl,rfl⟩;go_wp2_with fail;go_ret2;rw [m.out];exact⟨rfl,A,ah.refl _ _⟩
    · rw [ae D]at m;have Y:¬(l.length:Int) - ((ay d l).2.1:Int)<((ay d l).1:Int):=(by omega);have L:(l.take ((ay d l).2.1+(ay d l).1)).drop (ay d l).2.1=(l.drop (ay d l).2.1).take (ay d l).1:=(by rw [tw,Nat.add_sub_cancel_left]);obtain⟨Z,f2,M,O⟩:=wD eB 22 Tryz.underlying22 o (ay d l).2.1 ((ay d l).2.1+(ay d l).1) (by omega) (by omega);rw [L,Nat.add_sub_cancel_left]at *;have a1:∀ W,(Instr.slice 22 (.slice V l.length X) (some (.int .i64 ((ay d l).2.1:Int))) (some (.int .i64 (((ay d l).2.1:Int)+((ay d l).1:Int)))) none).run Tryz.prog W=.ok (.slice Z (ay d l).1 f2) W:=M;have a2:=uD _ _ w O;have a3:IntKind.i64.wrap (((ay d l).2.1:Int)+((ay d l).1:Int))=((ay d l).2.1:Int)+((ay d l).1:Int):=aw _ (by omega);have ab:=ao w ⟨z,0,none⟩ (S ((l.drop (ay d l).2.1).take (ay d l).1));have ac:=a8 A 0 (S ((l.drop (ay d l).2.1).take (ay d l).1));clear o F J D O M L;rw [h]at B;clear h;generalize (l.drop (ay d l).2.1).take (ay d l).1=q at *;generalize (ay d l).1=x at *;generalize (ay d l).2.1=n at *;go_enter Tryz.func234, Tryz.ntmps234;go_wp2_with fail;refine(B.out).mono ?_;rintro e K ⟨rfl,rfl⟩;go_wp2_with fail;go_ret2;rw [m.out];exact⟨by simp,ac,ab⟩
  · rw [ae h]at m;have D:¬((ay d l).2.2:Int)=0:=(by omega);clear o F h;generalize (ay d l).2.2=er at *;go_enter Tryz.func234, Tryz.ntmps234;go_wp2_with fail;refine(B.out).mono ?_;rintro e K ⟨rfl,rfl⟩;go_wp2_with fail;go_ret2;rw [m.out];exact⟨rfl,A,ah.refl _ _⟩
theorem sV(d:Nat)(hm:d<9223372036854775808)(B base:Nat)(s:Cs)(l:List UInt8)(w:World)(z:ar w 130 B base l s.at_ s.er)(hl:l.length<=1000000) :
  Calls Tryz.prog 199 #[.pointer (some ⟨B,0,none⟩),N d] w fun e I=>e=.returned (S (s.text l d).1)/\ar I 130 B base l (s.text l d).2.at_ (s.text l d).2.er/\ah (fun b=>b=B) w I:=by
 have a2:∀ (J:Fn) (first K:Array Value) (w:World),(Instr.makeFunc J first K).run Tryz.prog w=.ok (.func J first K) w:=fun _ _ _ _=>rfl;have a3:B<w.heap.size:=by obtain⟨⟨v,h1,_⟩,_⟩:=z;exact(aM.1 h1).1
 obtain⟨m,o⟩:∃ m,m=(w.alloc (.cells #[N d] 3)).alloc (.cells #[S []] 9):=⟨_,rfl⟩;have L:m.heap[w.heap.size]?=some (.cells #[N d] 3 (0,0)):=by rw [o,ig _ _ _ (by simp),a9 _ _ _ rfl]
 have A:m.heap[w.heap.size+1]?=some (.cells #[S []] 9 (0,0)):=by rw [o];exact a9 _ _ _ (by simp)
 have M:Fr w m:=by rw [o];exact((Fr.refl w).alloc _).alloc _
 have O:(l.drop s.at_).length<=1000000:=by rw [aU];omega
 have ak:s.at_<=l.length:=z.le
 have Q := ad (uf 234 [.pointer (some ⟨w.heap.size, 0, none⟩), .pointer (some ⟨w.heap.size + 1, 0, none⟩)] (.inr (.inr (.inr ⟨rfl, _, _, rfl⟩))) (fun b => b = w.heap.size + 1) (fun W => W.heap[w.heap.size + 1]? = some (.cells #[S (ed d (l.drop s.at_)).1] 9 (0, 0))) B base s (0, (ed d (l.drop s.at_)).2) l m (z.fr M)
  (ad fun W v R hs => (GT d hm w.heap.size (w.heap.size + 1) v _ W (R.heap L) (R.heap A) hs O)) (fun h => by have := (tN _ _ h).2.1; rw [aU] at this; show s.at_ + (ed d (l.drop s.at_)).2.1 ≤ _; omega)
  (by intro g hg; obtain rfl : g = w.heap.size + 1 := hg; exact ⟨by omega, _, _, _, A, by decide⟩) hl)
 have U:Hid (s.text l d=(if s.er=0 then(ed d (l.drop s.at_)).1 else [],s.step (0,(ed d (l.drop s.at_)).2))):=rfl;rw [U.out];clear L z O ak U;generalize s.step (0,(ed d (l.drop s.at_)).2)=s2 at *;generalize decide (s.er=0/\(0,(ed d (l.drop s.at_)).2).2.2=0)=ok at *;generalize (ed d (l.drop s.at_)).1=q at *;have V:=ad A;obtain⟨D,F⟩:∃ D,D=(if s.er=0 then q else []):=⟨_,rfl⟩;rw [<- F];have a0:=ad F;clear F;clear A;go_enter Tryz.func199, Tryz.ntmps199;go_wp2_with fail;rw [<- o];refine(Q.out).mono ?_;rintro e X ⟨rfl,Y,w2,hQ,Z,G,hC⟩;have a1:ah (fun b=>b=B) w X:=((M.chg _).trans (G':=fun b=>b=w.heap.size+1) Z fun i hi h=>by omega).trans G fun i _ h=>h;have hx:X.heap[w.heap.size+1]?=some (.cells #[S D] 9 (0,0)):=by
  rw [a0.out];by_cases h:s.er=0;· rw [ag h];exact G.heap (hQ h) (by omega)
  · rw [ae h,<- Y h];exact V.out
 have c1:=af hx 0 rfl;clear Q Z G hQ hx Y V o;go_wp2_with fail;go_ret;exact⟨rfl,hC,a1⟩
theorem Ev(B base k:Nat)(s:Cs)(l:List UInt8)(w:World)(o:ar w 130 B base l s.at_ s.er)(hk:¬s.er=0\/l.length<s.at_+k)(hl:l.length<=1000000) :
  Calls Tryz.prog 119 #[.pointer (some ⟨B,0,none⟩),N k] w fun e d=>e=.returned (.slice none 0 0)/\ar d 130 B base l (s.step (0,0,1)).at_ (s.step (0,0,1)).er/\ah (fun b=>b=B) w d:=by
 have a2:∀ (G:Fn) (first I:Array Value) (w:World),(Instr.makeFunc G first I).run Tryz.prog w=.ok (.func G first I) w:=fun _ _ _ _=>rfl;have a3:B<w.heap.size:=by obtain⟨⟨v,A,_⟩,_⟩:=o;exact(aM.1 A).1
 obtain⟨m,q⟩:∃ m,m=(w.alloc (.cells #[N k] 3)).alloc (.cells #[.slice none 0 0] 22):=⟨_,rfl⟩;have J:m.heap[w.heap.size]?=some (.cells #[N k] 3 (0,0)):=by rw [q,ig _ _ _ (by simp),a9 _ _ _ rfl]
 have K:m.heap[w.heap.size+1]?=some (.cells #[.slice none 0 0] 22 (0,0)):=by rw [q];exact a9 _ _ _ (by simp)
 have z:Fr w m:=by rw [q];exact((Fr.refl w).alloc _).alloc _
 have L:(l.drop s.at_).length=l.length - s.at_:=by rw [aU]
 have M:Hid (∃ R:Ending->World->Prop,Calls Tryz.prog 116 #[.pointer (some ⟨B,0,none⟩),.func (.func 165) #[] #[.pointer (some ⟨w.heap.size,0,none⟩),.pointer (some ⟨w.heap.size+1,0,none⟩)]] m R/\∀ e d,R e d->(∃ b,e=.returned (.bool b))/\ah (fun b=>b=B) m d/\ar d 130 B base l (s.step (0,0,1)).at_ (s.step (0,0,1)).er):=by
  by_cases O:s.er=0;· have HT:Hid (∀ W v,Fr m W->ai W eB v (l.drop s.at_)->Calls Tryz.prog 165 (v::[.pointer (some ⟨w.heap.size,0,none⟩),.pointer (some ⟨w.heap.size+1,0,none⟩)]).toArray W fun e d=>e=.returned (.tuple #[N (0:Nat),.int .i64 ((1:Nat):Int)])/\True/\ah (fun _=>False) W d):=fun W v hW hs=>(Hf w.heap.size (w.heap.size+1) k v _ W (hW.heap J) hs (by rw [L];have:=o.le;omega)).mono (by rintro e d ⟨rfl,rfl⟩;exact⟨rfl,trivial,ah.refl _ _⟩);refine⟨_,uf 165 [.pointer (some ⟨w.heap.size,0,none⟩),.pointer (some ⟨w.heap.size+1,0,none⟩)] (.inr (.inr (.inl ⟨rfl,_,_,rfl⟩))) (fun _=>False) (fun _=>True) B base s (0,0,1) l m (o.fr z) HT (fun h=>by cases h) (fun g h=>h.elim) hl,?_⟩;rintro e d ⟨rfl,_,D,_,A,h2,h3⟩;exact⟨⟨_,rfl⟩,(A.mono fun _ _ h=>h.elim).trans h2 fun _ _ h=>h,h3⟩
  · refine⟨_,Bh _ B base s.at_ s.er l m (o.fr z) O,?_⟩;rintro e d ⟨rfl,rfl⟩;refine⟨⟨_,rfl⟩,ah.refl _ _,?_⟩;unfold Cs.step;rw [ae O];exact o.fr z
 obtain⟨R,Q,U⟩:=M.out;have V:=ad Q;have X:=ad U;have Y:=ad K;clear M Q U J K L hk;generalize s.step (0,0,1)=s2 at *;go_enter Tryz.func119, Tryz.ntmps119;go_wp2_with fail;rw [<- q];refine(V.out).mono ?_;intro e D Z;obtain⟨⟨b,rfl⟩,F,hC⟩:=X.out e D Z;have hx:=F.heap Y.out (by omega);have c1:=af hx 0 rfl;have a1:ah (fun b=>b=B) w D:=(z.chg _).trans F fun _ _ h=>h;clear V X Y Z hx F q;go_wp2_with fail;go_ret;exact⟨rfl,hC,a1⟩
theorem sX(B base k:Nat)(s:Cs)(l:List UInt8)(w:World)(q:ar w 130 B base l s.at_ s.er)(z:l.length<=1000000)(F:base<=w.heap.size) :
  Calls Tryz.prog 119 #[.pointer (some ⟨B,0,none⟩),N k] w fun e h=>∃ u,e=.returned u/\Ow h w.heap.size eB u (s.take l k).1/\ar h 130 B base l (s.take l k).2.at_ (s.take l k).2.er/\ah (fun b=>b=B) w h:=by
 by_cases d:s.er=0
 · by_cases A:l.length<s.at_+k;· refine(Ev B base k s l w q (.inr A) z).mono ?_;rintro e h ⟨rfl,hC,m⟩;have o:s.take l k=([],⟨s.at_,1⟩):=(by unfold Cs.take;rw [ag d,ag A]);have D:s.step (0,0,1)=⟨s.at_,1⟩:=(by unfold Cs.step;rw [ag d,ae (by decide)]);rw [o];rw [D]at hC;exact⟨_,rfl,Ow.nil,hC,m⟩
   · rw [d]at q;refine(yW B base s.at_ k l w q (by omega) z F).mono ?_;rintro e h ⟨u,rfl,G,hC,m⟩;have o:s.take l k=((l.drop s.at_).take k,⟨s.at_+k,0⟩):=(by unfold Cs.take;rw [ag d,ae A]);rw [o];exact⟨u,rfl,G,hC,m⟩
 · refine(Ev B base k s l w q (.inl d) z).mono ?_;rintro e h ⟨rfl,hC,m⟩;have o:s.take l k=([],s):=(by unfold Cs.take;rw [ae d]);have D:s.step (0,0,1)=s:=(by unfold Cs.step;rw [ae d]);rw [o];rw [D]at hC;exact⟨_,rfl,Ow.nil,hC,m⟩
theorem Hg(s:Cs)(l:List UInt8):(s.take l 1).1=[]\/∃ x,(s.take l 1).1=[x]:=by
 unfold Cs.take;split
 · split;· exact .inl rfl
   · show(l.drop s.at_).take 1=[]\/∃ x,(l.drop s.at_).take 1=[x]
     cases l.drop s.at_ with
     | nil=>exact .inl rfl
     | cons x t=>exact .inr ⟨x,rfl⟩
 · exact .inl rfl
theorem tf (B base : Nat) (s : Cs) (l : List UInt8) (w : World) (o : ar w 130 B base l s.at_ s.er) (I : l.length ≤ 1000000) (J : base ≤ w.heap.size) :
    Calls Tryz.prog 82 #[.pointer (some ⟨B,0,none⟩)] w fun e A=>e=.returned (.int .u8 ((s.byte l).1:Int))/\ar A 130 B base l (s.byte l).2.at_ (s.byte l).2.er/\ah (fun b=>b=B) w A:=by
  have h:=ad (sX B base 1 s l w o I J);have D:Hid (s.byte l=((((s.take l 1).1).getD 0 0).toNat,(s.take l 1).2)):=rfl;rw [D.out];have K:=Hg s l;clear o D;generalize (s.take l 1).1=q at *;generalize (s.take l 1).2=M at *;rcases K with rfl | ⟨x,rfl⟩;· go_enter Tryz.func82, Tryz.ntmps82;go_wp2_with fail;refine(h.out).mono ?_;rintro e F ⟨u,rfl,d,hC,m⟩;obtain⟨p,z,rfl⟩:=d.shape';clear h d;go_wp2_with fail;go_ret;exact⟨rfl,hC,m⟩
  · go_enter Tryz.func82, Tryz.ntmps82;go_wp2_with fail;refine(h.out).mono ?_;rintro e F ⟨u,rfl,d,hC,m⟩;obtain⟨b,L,O,rfl,G⟩:=d.see.cell1 Fk.u8 rfl 0 (by simp);have Q:F.cell? ⟨b,L,none⟩=some (.int .u8 (x.toNat:Int)):=G;clear d G h;go_wp2_with fail;go_ret;exact⟨rfl,hC,m⟩
theorem ze(B base n d:Nat)(l:List UInt8)(w:World)(h:ar w 130 B base l n d) :
  Calls Tryz.prog 86 #[.pointer (some ⟨B,0,none⟩)] w fun e q=>e=.returned (N (l.length - n))/\Fr w q:=by
 have o:=ad (wM B base n d l w h);clear h;generalize l.length - n=m at *;go_enter Tryz.func86, Tryz.ntmps86;go_wp2_with fail;refine(o.out).mono ?_;rintro e A ⟨a,D,rfl,_,z⟩;clear o;go_wp2_with fail;go_ret;exact⟨rfl,z⟩
theorem qb(B base n h:Nat)(l:List UInt8)(w:World)(m:ar w 130 B base l n h) :
  Calls Tryz.prog 121 #[.pointer (some ⟨B,0,none⟩)] w fun e o=>e=.returned (N n)/\w=o:=by
 obtain⟨⟨v,d,q⟩,z⟩:=m;have A:=af d 1 rfl;clear d q;go_enter Tryz.func121, Tryz.ntmps121;go_wp2_with fail;go_ret;exact⟨rfl,rfl⟩
theorem pY(d:Nat)(B base:Nat)(s:Cs)(l:List UInt8)(w:World)(F:ar w 130 B base l s.at_ s.er) :
  Calls Tryz.prog 83 #[.pointer (some ⟨B,0,none⟩),.int .i64 (d:Int)] w fun e z=>e=.returned (.tuple #[])/\ar z 130 B base l (s.fail d).at_ (s.fail d).er/\ah (fun b=>b=B) w z:=by
 obtain⟨⟨v,h,m⟩,A⟩:=F;have c2:=af h 2 rfl;by_cases o:s.er=0;· have q:Hid (s.fail d=⟨s.at_,d⟩):=(by show _=_;unfold Cs.fail;rw [ag o]);rw [o]at c2;have M:=al h 2;have G:=m.ne_cells h (by decide);have D:=ao w ⟨B,2,none⟩ (.int .i64 (d:Int));have I:=a8 h 2 (.int .i64 (d:Int));have J:=m.chg D (fun i K e=>G (by rw [K,show i=B from e]));clear m o;go_enter Tryz.func83, Tryz.ntmps83;go_wp2_with fail;go_end0;rw [q.out];exact⟨rfl,⟨⟨v,I,J⟩,A⟩,D⟩
 · have q:Hid (s.fail d=s):=(by show _=_;unfold Cs.fail;rw [ae o]);have O:¬(s.er:Int)=0:=(by omega);have L:=ad (ar.mk ⟨v,h,m⟩ A);clear h m o;go_enter Tryz.func83, Tryz.ntmps83;go_wp2_with fail;go_end0;rw [q.out];exact⟨rfl,L.out,ah.refl _ _⟩
theorem EO(B base:Nat)(s:Cs)(l:List UInt8)(w:World)(d:ar w 130 B base l s.at_ s.er) :
  Calls Tryz.prog 169 #[.pointer (some ⟨B,0,none⟩)] w fun e K=>e=.returned (.int .i64 ((s.fin l).er:Int))/\ar K 130 B base l (s.fin l).at_ (s.fin l).er/\ah (fun b=>b=B) w K:=by
 have D:=ad (ze B base s.at_ s.er l w d);have L:=d.le;by_cases F:s.at_<l.length
 · have z:Hid (s.fin l=s.fail 2):=by
     show _=_;unfold Cs.fin Cs.fail;by_cases h:s.er=0;· rw [ag ⟨h,F⟩,ag h]
     · rw [ae (fun e=>h e.1),ae h]
   rw [z.out];have M:=ad (fun W (h:Fr w W)=>pY 2 B base s l W (d.fr h));have G:=ad (fun(o:Cs) W (h:ar W 130 B base l o.at_ o.er)=>iE B base o.at_ o.er l W h);obtain⟨m,A⟩:∃ m,m=l.length - s.at_:=⟨_,rfl⟩;have X:(0:Int)<m:=(by omega);rw [<- A]at D;clear d A F L z;generalize s.fail 2=o at *;go_enter Tryz.func169, Tryz.ntmps169;go_wp2_with fail;refine(D.out).mono ?_;rintro e I ⟨rfl,q⟩;have O:=ad (M.out I q);go_wp2_with fail;refine(O.out).mono ?_;rintro e Q ⟨rfl,hC,R⟩;have J:=ad (G.out o Q hC);go_wp2_with fail;refine(J.out).mono ?_;rintro e U ⟨rfl,rfl⟩;go_wp2_with fail;go_ret;exact⟨rfl,hC,(q.chg _).trans R fun _ _ h=>h⟩
 · have z:Hid (s.fin l=s):=(by show _=_;unfold Cs.fin;rw [ae (fun e=>F e.2)]);rw [z.out];have G:=ad (fun W (h:Fr w W)=>iE B base s.at_ s.er l W (d.fr h));have V:=ad d;obtain A:l.length - s.at_=0:=(by omega);rw [A]at D;clear d A F L z;go_enter Tryz.func169, Tryz.ntmps169;go_wp2_with fail;refine(D.out).mono ?_;rintro e I ⟨rfl,q⟩;have J:=ad (G.out I q);go_wp2_with fail;refine(J.out).mono ?_;rintro e U ⟨rfl,rfl⟩;go_wp2_with fail;go_ret;exact⟨rfl,V.out.fr q,q.chg _⟩
structure dC (w:World) (B base:Nat) (l:List UInt8) (n a:Nat):Prop where
 h:∃ v,w.heap[B]?=some (.cells #[v,N n,N a] 400 (0,0))/\Ow w base eB v l
 eq:n=8*l.length
 le:a<=n
theorem dC.fr{w d:World}{B base n a:Nat}{l:List UInt8}(h:dC w B base l n a)(e:Fr w d):dC d B base l n a:=by
 obtain⟨⟨v,m,o⟩,q,z⟩:=h;exact⟨⟨v,e.heap m,o.fr e⟩,q,z⟩
theorem SA(v:Value)(l:List UInt8)(w:World)(d:ai w eB v l)(A:l.length<=1000000) :
  Calls Tryz.prog 256 #[v] w fun e h=>∃ B,e=.returned (.pointer (some ⟨B,0,none⟩))/\dC h B w.heap.size l (8*l.length) 0/\Fr w h/\w.heap.size<=B:=by
 have D:=ad (jT v l w d A);obtain⟨F,G,rfl,_⟩:=d.shape;clear d;go_enter Tryz.func256, Tryz.ntmps256;go_wp2_with fail;refine(D.out).mono ?_;rintro e m ⟨u,rfl,o,q⟩;obtain⟨p,z,rfl⟩:=o.shape';go_wp2_with fail;go_ret;exact⟨m.heap.size,rfl,⟨⟨_,by rw [a9 _ _ _ rfl];simp,o.fr ((Fr.refl m).alloc _)⟩,rfl,an _⟩,q.alloc _,q.size⟩
theorem pZ(B base n a:Nat)(l:List UInt8)(w:World)(h:dC w B base l n a)(z:l.length<=1000000) :
  Calls Tryz.prog 263 #[.pointer (some ⟨B,0,none⟩)] w fun e m=>e=.returned (.int .i64 ((n:Int) - a))/\Qt w m:=by
 obtain⟨⟨v,d,o⟩,q,A⟩:=h;have D:=af d 1 rfl;have c2:=af d 2 rfl;have F:IntKind.i64.wrap ((n:Int) - a)=(n:Int) - a:=aw _ (by omega);clear d o q;go_enter Tryz.func263, Tryz.ntmps263;go_wp2_with fail;go_quiet (fail);go_wp2_with fail;go_ret;exact⟨rfl,Qt.drewN _ _⟩
theorem Em(B base n a i:Nat)(l:List UInt8)(w:World)(z:dC w B base l n a)(I:l.length<=1000000)(J:i<n) :
  Calls Tryz.prog 281 #[.pointer (some ⟨B,0,none⟩),N i] w fun e A=>e=.returned (.int .u64 (fs l i:Int))/\w=A:=by
 obtain⟨⟨v,d,m⟩,D,K⟩:=z;have h:i / 8<l.length:=by omega
 obtain⟨b,F,L,rfl,o⟩:=m.see.cell1 Fk.u8 rfl (i / 8) h;have M:=af d 0 rfl;have O:w.cell? ⟨b,F+i / 8,none⟩=some (.int .u8 (l[i / 8].toNat:Int)):=o;have Q:=l[i / 8].toNat_lt;have G:Hid (bits .and .u64 (IntKind.u64.wrap ((l[i / 8].toNat:Int) / 2 ^ (7 - i % 8))) 1=(fs l i:Int)):=by show _=_;have d:l[i / 8].toNat / 2 ^ (7 - i % 8)<=l[i / 8].toNat:=lR _ _;rw [show(l[i / 8].toNat:Int) / 2 ^ (7 - i % 8)=((l[i / 8].toNat / 2 ^ (7 - i % 8):Nat):Int)from by simp,PX l i h];generalize l[i / 8].toNat / 2 ^ (7 - i % 8)=q at *;rw [eu _ (by omega),uU _ (by omega)]
 generalize l[i / 8].toNat=x at *;generalize fs l i=r at *;have R:IntKind.i64.wrap ((i:Int) / 8)=(i:Int) / 8:=aw _ (by omega);have U:(i:Int).tmod 8=(i:Int) % 8:=Int.tmod_eq_emod_of_nonneg (by omega);have V:IntKind.i64.wrap ((i:Int) % 8)=(i:Int) % 8:=aw _ (by omega);have X:IntKind.i64.wrap (7 - (i:Int) % 8)=7 - (i:Int) % 8:=aw _ (by omega);have Y:(i:Int) / 8<l.length:=by omega
 have Z:(0:Int)<=(i:Int) / 8:=by omega
 have i3:((i:Int) / 8).toNat=i / 8:=by omega
 have i4:(0:Int)<=7 - (i:Int) % 8:=by omega
 have i5:(7 - (i:Int) % 8).toNat=7 - i % 8:=by omega
 clear o m d D h;go_enter Tryz.func281, Tryz.ntmps281;go_wp2_with fail;go_ret;exact⟨by rw [G.out];rfl,rfl⟩
theorem dC.drewN{w:World}{B base n a:Nat}{l:List UInt8}(h:dC w B base l n a)(m:Nat):dC (w.drewN m) B base l n a:=h.fr ((Fr.refl w).drewN m)
theorem K5(a b:Nat)(d:a<18446744073709551616)(e:b<18446744073709551616):bits .or .u64 (a:Int) (b:Int)=((a ||| b:Nat):Int):=by
 have h:a ||| b<2 ^ 64:=vo (by omega) (by omega);show IntKind.u64.wrap ((BitVec.ofInt 64 (a:Int) ||| BitVec.ofInt 64 (b:Int)).toNat:Int)=_;rw [BitVec.toNat_or,ek 64 a (by omega),ek 64 b (by omega)];exact eu _ (by omega)
theorem uP(B base n a i k:Nat)(l:List UInt8)(w:World)(d:dC w B base l n a)(I:l.length<=1000000)(Z:k<=64)(hi:i<=n) :
  Calls Tryz.prog 278 #[.pointer (some ⟨B,0,none⟩),N i,N k] w fun e J=>e=.returned (.int .u64 (Fk.aI l i k:Int))/\Qt w J:=by
 have K:=ad (fun W j (h:Qt w W) (q:j<n)=>Em B base n a j l W (d.fr h.fr) I q);have L:w.cell? ⟨B,1,none⟩=some (N n):=by obtain⟨⟨v,z,_⟩,_⟩:=d;rw [aA z];rfl
 have ab:n<=8000000:=by have:=d.eq;omega
 have M:Hid (∀ j,n<=j->fs l j=0):=fun j q=>PW l j (by have:=d.eq;omega);have O:=ad (fun j=>uS l (i+j));have Q:=ad (fun j=>nD l i j);clear d;go_enter Tryz.func278, Tryz.ntmps278;go_wp2_with fail;go_loopw [7,8] (fun R A wr=>∃ j x:Nat,j<=k/\A=.int .i64 ((i:Int)+j)/\R=.int .u64 (x:Int)/\Hid (x=Fk.aI l i j)/\Qt w wr) (fun _ A _=>i+k - (intOf A).toNat);case atStart=>exact⟨0,0,an _,by simp,rfl,rfl,Qt.refl _⟩
 case round=>
  obtain⟨j,x,q,rfl,rfl,o,m⟩:=hrel;have d1:=m.fr.cell L;have aj:IntKind.i64.wrap ((i:Int)+k)=(i:Int)+k:=aw _ (by omega);by_cases ak:j<k
  · have G:x<9223372036854775808:=(by have z:=Q.out j;have h2:(2:Nat) ^ j<=2 ^ 63:=ep (by omega) (by omega);rw [<- o.out]at z;omega);have U:=ad G;have av:IntKind.u64.wrap ((x:Int)*2)=((2*x:Nat):Int):=(by rw [eu _ (by omega)];omega);have a0:IntKind.i64.wrap ((i:Int)+j+1)=(i:Int)+j+1:=aw _ (by omega);have V:(i:Int)+j<(i:Int)+k:=(by omega);clear G;by_cases X:i+j<n
    · have a1:=O.out j;have D:=ad (K.out wr (i+j) m X);rw [show N (i+j)=.int .i64 ((i:Int)+j)from by simp [N]]at D;have F:Hid (Fk.aI l i (j+1)=2*x+fs l (i+j)):=(by show _=_;rw [o.out];rfl);have Y:(i:Int)+j<n:=(by omega);have HOr:Hid (bits .or .u64 (2*(x:Int)) ((fs l (i+j):Nat):Int)=((2*x+fs l (i+j):Nat):Int)):=(by show _=_;have:=U.out;rw [show 2*(x:Int)=((2*x:Nat):Int)from by simp,K5 _ _ (by omega) (by omega),KG _ _ (by omega)]);generalize fs l (i+j)=b at *;go_wp2_with fail;refine(D.out).mono ?_;rintro e w1 ⟨rfl,rfl⟩;clear D;go_wp2_with fail;go_roundw;case rel=>exact⟨j+1,2*x+b,by omega,by go_num,by rw [<- HOr.out],by show _=_;rw [F.out],m⟩
      case measure=>simp [intOf];omega
    · have F:Hid (2*x=Fk.aI l i (j+1)):=(by show _=_;rw [o.out];show _=2*Fk.aI l i j+fs l (i+j);rw [M.out _ (by omega)];rfl);have Y:¬(i:Int)+j<n:=(by omega);go_wp2_with fail;go_roundw;case rel=>exact⟨j+1,2*x,by omega,by go_num,rfl,F.out,m⟩
      case measure=>simp [intOf];omega
  · obtain rfl:j=k:=(by omega);have V:¬(i:Int)+j<(i:Int)+j:=(by omega);go_wp2_with fail;go_ret;exact⟨by rw [o.out];rfl,m⟩
theorem EL(B base n a k:Nat)(l:List UInt8)(w:World)(d:dC w B base l n a)(F:l.length<=1000000)(R:k<=64) :
  Calls Tryz.prog 264 #[.pointer (some ⟨B,0,none⟩),N k] w fun e G=>e=.returned (.tuple #[.int .u64 ((if n<a+k then 0 else Fk.aI l a k:Nat):Int),.int .i64 ((if n<a+k then 1 else 0:Nat):Int)])/\dC G B base l n (if n<a+k then a else a+k)/\ah (fun b=>b=B) w G:=by
 have I:=ad (pZ B base n a l w d F);have ap:n<=8000000:=by have:=d.eq;omega
 have k1:¬(k:Int)<0:=by omega
 have k2:¬(64:Int)<k:=by omega
 by_cases h:n<a+k;· rw [ag h,ag h,ag h];have U:=ad d;have k3:(n:Int) - a<k:=(by omega);clear d h;go_enter Tryz.func264, Tryz.ntmps264;go_wp2_with fail;refine(I.out).mono ?_;rintro e q ⟨rfl,o⟩;go_wp2_with fail;go_ret2;exact⟨rfl,U.out.fr o.fr,o.fr.chg _⟩
 · rw [ae h,ae h,ae h];have k3:¬(n:Int) - a<k:=(by omega);have J:=ad (fun W (V:Fr w W)=>uP B base n a a k l W (d.fr V) F R d.le);have hw:IntKind.i64.wrap ((a:Int)+k)=(a:Int)+k:=aw _ (by omega);obtain⟨⟨v,z,K⟩,L,a2⟩:=d;have X:=ad L;have Y:Hid (a+k<=n):=(by show _<=_;omega);have Z:=K.ne_cells z (by decide);clear L h;generalize Fk.aI l a k=x at *;go_enter Tryz.func264, Tryz.ntmps264;go_wp2_with fail;refine(I.out).mono ?_;rintro e q ⟨rfl,o⟩;have aa:=o.fr.heap z;have c2:=af aa 2 rfl;have M:=ad (fun m=>J.out (q.drewN m) (o.fr.drewN m));clear J;go_wp2_with fail;go_quiet ((go_at_call 278;exact mH (M.out _)));have A:Fr w (q.drewN nq):=o.fr.drewN nq;generalize q.drewN nq=O at *;have D:=A.heap z;have d2:=af D 2 rfl;have z2:=al D 2;have Q:=ao O ⟨B,2,none⟩ (.int .i64 ((a:Int)+k));have ab:=a8 D 2 (.int .i64 ((a:Int)+k));have ac:=(K.fr A).chg Q (fun i hi e=>Z (by rw [hi,show i=B from e]));have ak:ah (fun b=>b=B) w (O.setCell ⟨B,2,none⟩ (.int .i64 ((a:Int)+k))):=(A.chg _).trans Q fun _ _ h=>h;clear M c2;go_wp2_with fail;go_ret2;exact⟨rfl,⟨⟨v,ab,ac⟩,X.out,Y.out⟩,ak⟩
structure dp (w:World) (B base:Nat) (v:Value) (l:List UInt8) (n a:Nat):Prop where
 h:w.heap[B]?=some (.cells #[v,N n,N a] 400 (0,0))
 o:Ow w base eB v l
 eq:n=8*l.length
 le:a<=n
theorem dp.f{w:World}{B base n a:Nat}{v:Value}{l:List UInt8}(h:dp w B base v l n a):dC w B base l n a:=⟨⟨v,h.h,h.o⟩,h.eq,h.le⟩
theorem dp.fr{w d:World}{B base n a:Nat}{v:Value}{l:List UInt8}(h:dp w B base v l n a)(e:Fr w d):dp d B base v l n a:=⟨e.heap h.h,h.o.fr e,h.eq,h.le⟩
theorem dp.chg{G:Nat->Prop}{w d:World}{B base n a:Nat}{v:Value}{l:List UInt8}(h:dp w B base v l n a)(e:ah G w d)(m:¬G B)(o:∀ k,v.ownBlock=some k->¬G k):dp d B base v l n a:=⟨e.heap h.h m,h.o.chg e o,h.eq,h.le⟩
theorem RE(B base n a k:Nat)(l:List UInt8)(w:World)(d:dC w B base l n a)(z:l.length<=1000000)(I:k<=64) :
  Calls Tryz.prog 289 #[.pointer (some ⟨B,0,none⟩),N k] w fun e J=>e=.returned (.tuple #[.int .u64 (Fk.aI l a k:Int),N (min k (n - a))])/\Qt w J:=by
 have A:=ad (fun m=>pZ B base n a l (w.drewN m) (d.drewN m) z);have D:=ad (fun m=>uP B base n a a k l (w.drewN m) (d.drewN m) z I d.le);have O:n<=8000000:=by have:=d.eq;omega
 have Q:=d.le;have R:¬(k:Int)<0:=by omega
 have U:¬(64:Int)<k:=by omega
 obtain⟨⟨v,F,K⟩,L,_⟩:=d;have c2:=af F 2 rfl;have o:Hid (N (min k (n - a))=if(k:Int)<=(n:Int) - a then N k else .int .i64 ((n:Int) - a)):=by
  show _=_;by_cases h:k<=n - a;· rw [ag (by omega),gx h]
  · rw [ae (by omega),Nat.min_eq_right (by omega)];simp [N];omega
 clear F K L;generalize Fk.aI l a k=x at *;generalize N (min k (n - a))=G at *;by_cases h:(k:Int)<=(n:Int) - a;· have q:Hid (G=N k):=(by show _=_;rw [o.out,ag h]);have M:¬((n:Int) - a<k):=(by omega);clear o;go_enter Tryz.func289, Tryz.ntmps289;go_wp2_with fail;go_quiet ((first | (go_at_call 278;exact mH (D.out _)) | (go_at_call 263;exact mH (A.out _))));go_wp2_with fail;go_ret2;rw [q.out];exact⟨rfl,Qt.drewN _ _⟩
 · have q:Hid (G=.int .i64 ((n:Int) - a)):=(by show _=_;rw [o.out,ae h]);have M:(n:Int) - a<k:=(by omega);have V:(n:Int) - a<=k:=(by omega);clear o;go_enter Tryz.func289, Tryz.ntmps289;go_wp2_with fail;go_quiet ((first | (go_at_call 278;exact mH (D.out _)) | (go_at_call 263;exact mH (A.out _))));go_wp2_with fail;go_ret2;rw [q.out];exact⟨rfl,Qt.drewN _ _⟩
theorem QU(B base n a k:Nat)(v:Value)(l:List UInt8)(w:World)(d:dp w B base v l n a)(I:l.length<=1000000)(V:a+k<=n) :
  Calls Tryz.prog 291 #[.pointer (some ⟨B,0,none⟩),N k] w fun e q=>e=.returned (.int .i64 0)/\dp q B base v l n (a+k)/\ah (fun b=>b=B) w q:=by
 have J:=ad (pZ B base n a l w d.f I);have X:n<=8000000:=by have:=d.eq;omega
 have Y:¬(k:Int)<0:=by omega
 have k3:¬(n:Int) - a<k:=by omega
 have Z:IntKind.i64.wrap ((a:Int)+k)=(a:Int)+k:=aw _ (by omega);obtain⟨z,A,D,aa⟩:=d;have K:=ad D;have L:Hid (a+k<=n):=by show _<=_;omega
 have M:=A.ne_cells z (by decide);clear D;go_enter Tryz.func291, Tryz.ntmps291;go_wp2_with fail;refine(J.out).mono ?_;rintro e F ⟨rfl,m⟩;have o:=m.fr.heap z;have c2:=af o 2 rfl;have z2:=al o 2;have G:=ao F ⟨B,2,none⟩ (.int .i64 ((a:Int)+k));have O:=a8 o 2 (.int .i64 ((a:Int)+k));have Q:=(A.fr m.fr).chg G (fun i R e=>M (by rw [R,show i=B from e]));have U:ah (fun b=>b=B) w (F.setCell ⟨B,2,none⟩ (.int .i64 ((a:Int)+k))):=(m.fr.chg _).trans G fun _ _ h=>h;go_wp2_with fail;go_ret;exact⟨rfl,⟨O,Q,K.out,L.out⟩,U⟩
theorem RG (B base n a : Nat) (l : List UInt8) (w : World) (o : dC w B base l n a) (L : l.length ≤ 1000000) :
    Calls Tryz.prog 259 #[.pointer (some ⟨B,0,none⟩)] w fun e X=>e=.returned (.int .i64 (if mQ l a=true then 0 else 2))/\Qt w X:=by
  have z:=ad (pZ B base n a l w o L);have M:=o.eq;have D:=o.le;obtain⟨m,O⟩:∃ m,m=n - a:=⟨_,rfl⟩;have F:(n:Int) - a=(m:Int):=(by omega);rw [F]at z;by_cases Q:8<=m;· have q:Hid ((if mQ l a=true then(0:Int)else 2)=2):=(by show _=_;unfold mQ;rw [aX (by omega)];rfl);have Y:decide ((8:Int)<=m)=true:=bt (by omega);have c2:w.cell? ⟨B,2,none⟩=some (N a):=(by obtain⟨⟨v,G,_⟩,_⟩:=o;rw [aA G];rfl);generalize (if mQ l a=true then(0:Int)else 2)=R at *;clear o M D O F Q;go_enter Tryz.func259, Tryz.ntmps259;go_wp2_with fail;refine(z.out).mono ?_;rintro e A ⟨rfl,d⟩;have U:=d.fr.cell c2;go_wp2_with fail;go_quiet (fail);go_wp2_with fail;go_ret;rw [q.out];exact⟨rfl,d.trans (Qt.drewN _ _)⟩
  · have V:=ad (fun W (h:Fr w W)=>uP B base n a a m l W (o.fr h) L (by omega) D);have q:Hid ((if mQ l a=true then(0:Int)else 2)=if Fk.aI l a m=0 then 0 else 2):=(by show _=_;unfold mQ;rw [bt (show 8*l.length<a+8 by omega),show 8*l.length - a=m by omega];simp);have Y:decide ((8:Int)<=m)=false:=aX (by omega);have c2:w.cell? ⟨B,2,none⟩=some (N a):=(by obtain⟨⟨v,G,_⟩,_⟩:=o;rw [aA G];rfl);generalize (if mQ l a=true then(0:Int)else 2)=R at *;generalize Fk.aI l a m=x at *;clear o M D O F Q;by_cases I:x=0;· have J:Hid (R=0):=(by show _=_;rw [q.out,ag I]);subst I;have Z:(((0:Nat):Int) != 0)=false:=rfl;clear q;go_enter Tryz.func259, Tryz.ntmps259;go_wp2_with fail;refine(z.out).mono ?_;rintro e A ⟨rfl,d⟩;have U:=d.fr.cell c2;have K:=ad (fun m=>V.out (A.drewN m) (d.fr.drewN m));go_wp2_with fail;go_quiet ((go_at_call 278;exact mH (K.out _)));go_wp2_with fail;go_ret;rw [J.out];exact⟨rfl,d.trans (Qt.drewN _ _)⟩
    · have J:Hid (R=2):=(by show _=_;rw [q.out,ae I]);have Z:((x:Int) != 0)=true:=bne_iff_ne.2 (by omega);clear q;go_enter Tryz.func259, Tryz.ntmps259;go_wp2_with fail;refine(z.out).mono ?_;rintro e A ⟨rfl,d⟩;have U:=d.fr.cell c2;have K:=ad (fun m=>V.out (A.drewN m) (d.fr.drewN m));go_wp2_with fail;go_quiet ((go_at_call 278;exact mH (K.out _)));go_wp2_with fail;go_ret;rw [J.out];exact⟨rfl,d.trans (Qt.drewN _ _)⟩
theorem wJ(k m:Nat)(h:1<=k)(o:k+m<=255)(w:World):Calls Tryz.prog 110 #[N k,N m] w fun e d=>e=.returned (.bool true)/\w=d:=by
 have q:(1:Int)<=k:=by omega
 have z:(0:Int)<=m:=by omega
 have A:(k:Int)<=255:=by omega
 have B:(m:Int)<=255:=by omega
 have D:(k:Int)+m<=255:=by omega
 go_enter Tryz.func110, Tryz.ntmps110;go_wp2_with fail;go_ret;exact⟨rfl,rfl⟩
def EZ(L:Nat)(d:List Hd):Prop:=∀ i (h:i<d.length),d[i].n=L
theorem yO{w:World}{v:Value}{d:List Hd}{m:List (List UInt8)}{L:Nat}(o:dl w aQ eB v d m)(A:∀ p∈m,p.length=L):EZ L d:=by
 intro i h;have q:i<m.length:=by rw [<- o.2.1];exact h
 obtain⟨a,B,z,_⟩:=(o.2.2 i h q).shape;have e:=A _ (bX q);generalize d[i]=x at *;obtain⟨D,F,G⟩:=x;simp only [Hd.v,go]at z;rw [<- e];exact z.2.1
theorem yQ(v:Value)(d:List Hd)(L:Nat)(w:World)(m:ai w aQ v d)(q:EZ L d) :
  Calls Tryz.prog 111 #[v] w fun e F=>e=.returned (.bool true)/\w=F:=by
 obtain⟨a,M,rfl,O,G,Q⟩:=m.shape;unfold maxLen at G;go_enter Tryz.func111, Tryz.ntmps111;go_wp2_with fail;go_loop [7] (fun o=>∃ i:Nat,i<=d.length/\o=N i) (fun o=>d.length - (intOf o).toNat);case atStart=>exact⟨0,an _,rfl⟩
 case round=>
  obtain⟨i,R,rfl⟩:=hrel;by_cases z:i<d.length
  · obtain⟨b,U,c,I,J⟩:=m.cell1 (fun(h:Hd)=>h.v) rfl i z;obtain⟨V,X,c2,A,K⟩:=m.cell1 (fun(h:Hd)=>h.v) rfl 0 (by omega);have B:=q i z;have D:=q 0 (by omega);generalize d[i]=x at *;generalize d[0]'(by omega)=y at *;obtain⟨Y,Z,xc⟩:=x;obtain⟨ya,yn,yc⟩:=y;simp only at B D;subst B D;cases I;simp only [go,lQ,Addr.mk.injEq,nU]at A;obtain⟨⟨rfl,rfl⟩,_,rfl⟩:=A;simp only [Hd.v,et]at J K;have i1:(0:Int)<=i:=(by omega);have i2:(i:Int)<d.length:=(by omega);have i3:(0:Int)<d.length:=(by omega);go_wp2_with fail;go_round;case rel=>exact⟨i+1,by omega,by go_num⟩
    case measure=>simp [intOf];omega
  · obtain rfl:i=d.length:=(by omega);have a0:¬((d.length:Int)<d.length):=(by omega);go_wp2_with fail;go_ret;exact⟨rfl,rfl⟩
def dd(w:World)(base g:Nat)(T:TypeId)(rest:List Value)(d:Value)(l:List UInt8):Prop:=
 w.heap[g]?=some (.cells (d::N l.length::rest).toArray T (0,0))/\Ow w base eB d (ej l)/\g<base/\nQ l
def br(g:Nat)(d e:Value)(w h:World):Prop:=ah (fun k=>k=g\/d.ownBlock=some k) w h/\∀ b,e.ownBlock=some b->d.ownBlock=some b\/w.heap.size<=b
theorem br.refl(g:Nat)(d:Value)(w:World):br g d d w w:=⟨ah.refl _ w,fun _ h=>.inl h⟩
theorem br.trans{g:Nat}{a b c:Value}{w d m:World}(h:br g a b w d)(k:br g b c d m):br g a c w m:=
 ⟨h.1.trans k.1 (fun i o z => by
  rcases z with e | e
  · exact .inl e
  · rcases h.2 i e with q | q
    · exact .inr q
    · omega), fun i o => by
  rcases k.2 i o with e | e
  · exact h.2 i e
  · exact .inr (az h.1.size e)⟩
theorem br.fr{g:Nat}{a b:Value}{w d m:World}(o:Fr w d)(h:br g a b d m):br g a b w m:=
 ⟨(o.chg _).trans h.1 (fun _ _ h=>h),fun i q=>(h.2 i q).imp id fun e=>az o.size e⟩
theorem br.frR{g:Nat}{a b:Value}{w d e:World}(h:br g a b w d)(m:Fr d e):br g a b w e:=
 ⟨h.1.trans (m.chg (fun k=>k=g\/a.ownBlock=some k)) (fun _ _ h=>h),h.2⟩
theorem br.heap{g:Nat}{a b:Value}{w d:World}(h:br g a b w d){k:Nat}{o:Obj}(m:w.heap[k]?=some o)(q:k≠g)(z:a.ownBlock≠some k):d.heap[k]?=some o:=
 h.1.heap m (fun e=>e.elim q z)
theorem Ql(x:UInt8)(A:x=0\/x=1)(base g:Nat)(T:TypeId)(rest:List Value)(B:Value)(l:List UInt8)(w:World)(h:dd w base g T rest B l)(hl:l.length<=1000000000)(D:base<=w.heap.size) :
  Calls Tryz.prog 188 #[.pointer (some ⟨g,0,none⟩),.int .u64 x.toNat] w fun e w'=>e=.returned (.tuple #[])/\∃ ak,dd w' base g T rest ak (l++[x])/\br g B ak w w':=by
 obtain⟨d,F,V,X⟩:=h;have e0:=af d 0 rfl;have e1:=af d 1 rfl;have z0:=al d 0;have z1:=al d 1;have G:=pB l;have Y:=Kw l x X A;obtain⟨m,o⟩:∃ m,m=(if l.length % 8=0 then ej l++[0]else ej l):=⟨_,rfl⟩;have L:l.length / 8<m.length:=by
  rw [o];split;· rw [aD,G];simp;omega
  · rw [G];omega
 have a0:m[l.length / 8]=UInt8.ofNat (gt l (l.length / 8)):=by
  by_cases I:l.length % 8=0;· simp only [o,ag I];rw [nu (by rw [G];omega)];rw [PG l _ (by omega)];simp
  · simp only [o,ae I];exact Kx l _ _
 rw [<- o]at Y;have bc:=ad Y;have Z:=ad o;have bd:=ad a0;have bf:=ad G;clear Y o a0 G;have b5:(0:Int)<=l.length:=by omega
 have b6:m.length<=(ej l).length+1:=by rw [Z.out];split <;> simp
 obtain⟨b7,b8,bk⟩:=F.shape';go_enter Tryz.func188, Tryz.ntmps188;go_upto_if 9 with fail;go_cut []from 8 to 18 (fun wx=>∃ M,wx.heap[g]?=some (.cells (M::N l.length::rest).toArray T (0,0))/\Ow wx base eB M m/\br g B M w wx)
 case first=>
  by_cases I:l.length % 8=0
  · have bl:(l.length:Int) % 8=0:=(by omega);have bm:(ej l).length+1<=2147483648:=(by rw [bf.out];omega);have ab:Hid (m=ej l++[0]):=(by show _=_;rw [Z.out,ag I]);subst bk;go_wp2_with (at_builtin;refine cW eB rfl (.tmp 14) (.tmp 15) 22 rfl Tryz.underlying22 base rfl F [0] _ _ _ rfl rfl rfl bm D ?_);intro v' w4 J;have ac:=J.chg'.heap d (fun e=>by have:=(F.lt _ e).1;omega);have c0:=af ac 0 rfl;have c1:=al ac 0;obtain⟨va,vc,hv⟩:=J.own.shape';rw [show(ej l++[(0:UInt8)]).length=(ej l).length+1 from by simp]at hv;subst hv;go_wp2_with fail;go_meet;refine⟨_,a8 ac 0 _,?_,⟨?_,?_⟩⟩;· rw [ab.out];exact dx J.own V
    · exact(J.chg'.mono (fun k _ h=>Or.inr h)).trans (ao w4 ⟨g,0,none⟩ _) (fun k _ h=>Or.inl h)
    · exact J.fresh
  · have bl:¬(l.length:Int) % 8=0:=(by omega);have ab:Hid (m=ej l):=(by show _=_;rw [Z.out,ae I]);go_wp2_with fail;go_meet;exact⟨_,d,by rw [ab.out];exact F,br.refl g B w⟩
 case rest=>
  obtain⟨M,O,Q,a2⟩:=hcut;clear d F e0 e1 z0 z1;have bs:m≠[]:=(by intro e;rw [e]at L;simp at L);obtain⟨q,K,rfl,bR,bT,ca,cb⟩:=Q.atHead bs;obtain⟨c2,c3⟩:=Q.cellAt (fun c=>Fk.u8 c) rfl (l.length / 8) L;have a3:=fun u x A=>Q.set (fun c=>Fk.u8 c) rfl (l.length / 8) L x u A;rw [bd.out]at c2;have a4:=DT X (l.length / 8);generalize gt l (l.length / 8)=y at *;have e0:=af O 0 rfl;have e1:=af O 1 rfl;have i1:(l.length:Int) / 8<m.length:=(by omega);have i2:(0:Int)<=(l.length:Int) / 8:=(by omega);have i3:((l.length:Int) / 8).toNat=l.length / 8:=(by omega);have i4:(0:Int)<=7 - (l.length:Int) % 8:=(by omega);have i5:(7 - (l.length:Int) % 8).toNat=7 - l.length % 8:=(by omega);have cm:=kF x;have j1:IntKind.i64.wrap ((l.length:Int) / 8)=(l.length:Int) / 8:=aw _ (by omega);have j2:(l.length:Int).tmod 8=(l.length:Int) % 8:=Int.tmod_eq_emod_of_nonneg (by omega);have cq:IntKind.i64.wrap ((l.length:Int) % 8)=(l.length:Int) % 8:=aw _ (by omega);have j3:IntKind.i64.wrap (7 - (l.length:Int) % 8)=7 - (l.length:Int) % 8:=aw _ (by omega);have j4:IntKind.u8.wrap (x.toNat:Int)=x.toNat:=(by rw [qu];omega);have a5:x.toNat*2 ^ (7 - l.length % 8)<256:=by
   have h1:x.toNat<=1:=(by rcases A with rfl | rfl <;> decide);have R:2 ^ (7 - l.length % 8)<=2 ^ 7:=ep (by omega) (by omega)
   calc x.toNat * 2 ^ (7 - l.length % 8) ≤ 1 * 2 ^ 7 := bJ h1 R
    _<256:=by decide
  have k1:IntKind.u8.wrap ((x.toNat:Int)*2 ^ (7 - l.length % 8))=((x.toNat*2 ^ (7 - l.length % 8):Nat):Int):=(by rw [qu];have e:((x.toNat*2 ^ (7 - l.length % 8):Nat):Int)=(x.toNat:Int)*2 ^ (7 - l.length % 8):=(by simp);rw [<- e];omega);have bx:y ||| x.toNat*2 ^ (7 - l.length % 8)<256:=vo (n:=8) a4 a5;generalize x.toNat*2 ^ (7 - l.length % 8)=S at *;have k2:bits .or .u8 ((y:Int) % 256) (S:Int)=((y ||| S:Nat):Int):=(by rw [show(y:Int) % 256=y by omega];exact BC y S a4 a5);have a6:=a3 (.int .u8 ((y ||| S:Nat):Int)) (UInt8.ofNat (y ||| S)) (pT _ bx).symm;clear a3;generalize y ||| S=z at *;have b0:q≠g:=(by omega);have U:(wc.setCell ⟨q,l.length / 8,none⟩ (.int .u8 (z:Int))).heap[g]?=some (.cells (.slice (some ⟨q,0,none⟩) m.length K::N l.length::rest).toArray T (0,0)):=by rw [nw _ _ _ _ (by simpa using fun e=>b0 e.symm)];exact O
  have a7:br g B (.slice (some ⟨q,0,none⟩) m.length K) w (wc.setCell ⟨q,l.length / 8,none⟩ (.int .u8 (z:Int))):=
   a2.trans ⟨(ao wc _ _).mono (fun k _ h=>Or.inr (by rw [h];rfl)),fun b D=>Or.inl D⟩
  have d1:(wc.setCell ⟨q,l.length / 8,none⟩ (.int .u8 (z:Int))).cell? ⟨g,1,none⟩=some (N l.length):=(by rw [aA U];rfl);have d2:=al U 1;have b1:=ad a7;have b2:=ad a6;have b3:=ad U;clear a7 a6 U a2 Q O;go_upto_region 2 with fail;go_still_tail 22,(by kernel_rfl);change wpList _ _ _ _ _ wc.drew;go_wp2_with fail;go_end0;refine⟨rfl,.slice (some ⟨q,0,none⟩) m.length K,⟨?_,?_,V,X.app (by intro c hc;rw [lT]at hc;rw [hc];exact A)⟩,?_⟩;· have R:=a8 b3.out 1 (.int .i64 ((l.length:Int)+1));rw [List.setIfInBounds_toArray]at R;have e:(N (l++[x]).length:Value)=.int .i64 ((l.length:Int)+1):=(by rw [aD];rfl);rw [e];exact R
  · rw [bc.out];exact(dx b2.out V).drew
  · exact(b1.out.trans (b:=.slice (some ⟨q,0,none⟩) m.length K) (c:=.slice (some ⟨q,0,none⟩) m.length K) ⟨(ao _ _ _).mono (fun k _ h=>Or.inl h),fun b D=>Or.inl D⟩).frR (Fr.drew (Fr.refl _))
theorem uU(y:Nat)(h:y<18446744073709551616):bits .and .u64 (y:Int) 1=((y % 2:Nat):Int):=by
 show IntKind.u64.wrap ((BitVec.ofInt 64 (y:Int) &&& BitVec.ofInt 64 ((1:Nat):Int)).toNat:Int)=_;rw [tB,ek 64 y (by omega),ek 64 1 (by omega),Nat.and_one_is_mod];simp only [IntKind.wrap,IntKind.bits,IntKind.signed];simp;omega
theorem Qm(b:Nat)(A:b<=1)(base g:Nat)(T:TypeId)(rest:List Value)(d:Value)(l:List UInt8)(w:World)(h:dd w base g T rest d l)(q:l.length<=1000000000)(z:base<=w.heap.size) :
  Calls Tryz.prog 188 #[.pointer (some ⟨g,0,none⟩),.int .u64 (b:Int)] w fun e m=>e=.returned (.tuple #[])/\∃ o,dd m base g T rest o (l++[UInt8.ofNat b])/\br g d o w m:=by
 have e:((UInt8.ofNat b).toNat:Int)=(b:Int):=by rw [lP];omega
 rw [<- e];refine Ql (UInt8.ofNat b) ?_ base g T rest d l w h q z;have:b=0\/b=1:=by omega
 rcases this with rfl | rfl <;> simp
theorem dd.drew{w:World}{base g:Nat}{T:TypeId}{rest:List Value}{d:Value}{l:List UInt8}(h:dd w base g T rest d l):dd w.drew base g T rest d l:=⟨h.1,h.2.1.drew,h.2.2⟩
theorem IE(x n:Nat)(h:x<2 ^ n):(x:Int) / 2 ^ n=0:=by
 have e:(x:Int) / 2 ^ n=((x / 2 ^ n:Nat):Int):=by simp
 rw [e,tj h];rfl
theorem yD(x n:Nat)(Q:n<=64)(q:x<2 ^ n)(base g:Nat)(T:TypeId)(rest:List Value)(o:Value)(l:List UInt8)(w:World)(h:dd w base g T rest o l)(hl:l.length+n<=1000000000)(R:base<=w.heap.size) :
  Calls Tryz.prog 149 #[.pointer (some ⟨g,0,none⟩),.int .u64 (x:Int),N n] w fun e F=>e=.returned (.int .i64 0)/\∃ d,dd F base g T rest d (l++cO x n)/\br g o d w F:=by
 have U:x<18446744073709551616:=by
  calc x < 2 ^ n := q
   _<=2 ^ 64:=ep (by omega) Q
 have V:=IE x n q;have X:=ad (fun b G W m d (Y:dd W base g T rest d m) (Z:m.length<=1000000000) (h3:base<=W.heap.size)=>Qm b G base g T rest d m W Y Z h3);have a4:(0:Int)<=n:=by omega
 have a5:(n:Int)<=64:=by omega
 have a6:IntKind.i64.wrap ((n:Int) - 1)=(n:Int) - 1:=aw _ (by omega);have d1:decide ((n:Int)<0)=false:=by simp
 have d2:decide ((64:Int)<n)=false:=by simp;omega
 have hc:decide ((n:Int)<64)=true\/decide ((n:Int)<64)=false:=by cases decide ((n:Int)<64) <;> simp
 rcases hc with d3 | d3
 all_goals
  go_enter Tryz.func149, Tryz.ntmps149;go_wp2_with fail;go_loopw [7] (fun z wr=>∃ (j:Nat) (d:Value) (m:List UInt8),j<=n/\z=.int .i64 ((j:Int) - 1)/\dd wr base g T rest d m/\br g o d w wr/\m.length<=1000000000 - j/\Hid (l++cO x n=m++cO x j)) (fun z _=>(intOf z+1).toNat);case atStart=>exact⟨n,o,l,am _,rfl,h,br.refl g o w,by omega,rfl⟩
  case round=>
   clear h;obtain⟨j,d,m,hj,rfl,I,A,bb,B⟩:=hrel;rcases jU j with rfl | hp;· have D:Hid (l++cO x n=m):=(by show _=_;rw [B.out,cO,gq]);go_wp2_with fail;go_ret;exact⟨rfl,d,by rw [D.out];exact I,A⟩
   · obtain⟨i,rfl⟩:∃ i,j=i+1:=⟨j - 1,by omega⟩;have J:((i+1:Nat):Int) - 1=(i:Int):=(by omega);rw [J];have bd:IntKind.i64.wrap ((i:Int) - 1)=(i:Int) - 1:=aw _ (by omega);have bf:(0:Int)<=i:=(by omega);have K:x / 2 ^ i<18446744073709551616:=Nat.lt_of_le_of_lt (lR _ _) U;have aj:=ad (uU (x / 2 ^ i) K);have L:(x:Int) / 2 ^ i=((x / 2 ^ i:Nat):Int):=(by simp);have ak:x / 2 ^ i % 2<=1:=(by omega);have D:Hid (l++cO x n=(m++[UInt8.ofNat (x / 2 ^ i % 2)])++cO x i):=(by show _=_;rw [B.out,cO];simp);have HC:=ad (X.out (x / 2 ^ i % 2) ak wr.drew m d I.drew (by omega) (az R A.1.size));clear J B;generalize x / 2 ^ i=y at *;have HY:=ad L;clear L V q;have G:bits .and .u64 ((x:Int) / 2 ^ i) 1=((y % 2:Nat):Int):=(by rw [HY.out];exact aj.out);clear K;generalize y % 2=b at *;go_upto_region 6 with fail;go_still_tail 7,(by kernel_rfl);change wpList _ _ _ _ _ wr.drew;generalize M:wr.drew=WD at *;have a0:=ad M;clear M;go_wp2_with fail;refine HC.out.mono ?_;rintro e w1 ⟨rfl,a1,a2,O⟩;go_wp2_with fail;go_roundw;case rel=>exact⟨i,a1,_,by omega,rfl,a2,by rw [<- a0.out]at O;exact(A.frR (Fr.drew (Fr.refl wr))).trans O,by rw [aD];simp;omega,D⟩
     case measure=>simp [intOf]
theorem Qk(base g:Nat)(T:TypeId)(rest:List Value)(d:Value)(l:List UInt8)(w:World)(h:dd w base g T rest d l)(D:l.length<=7999992) :
  Calls Tryz.prog 140 #[.pointer (some ⟨g,0,none⟩)] w fun e m=>∃ v,e=.returned v/\Ow m w.heap.size eB v (ej l)/\Fr w m:=by
 obtain⟨q,o,F,G⟩:=h;have I:=af q 0 rfl;have z:=ad (jT d (ej l) w o.see (by rw [pB];omega));obtain⟨J,K,rfl⟩:=o.shape';go_enter Tryz.func140, Tryz.ntmps140;go_wp2_with fail;refine z.out.mono ?_;rintro e L ⟨M,rfl,A,B⟩;go_wp2_with fail;go_ret;exact⟨_,rfl,A,B⟩
def Tm(w:World)(base g:Nat)(T:TypeId)(d:Value)(l:List UInt8):Prop:=w.heap[g]?=some (.cells #[d] T (0,0))/\Ow w base eB d l/\g<base/\nQ l
def Tc(x k:Nat):List UInt8:=(List.range k).map fun i=>UInt8.ofNat (x / 2 ^ i % 2)
def Kr(l:List UInt8)(q:Nat):Nat->Nat
 | 0=>0
 | t+1=>2*Kr l q t+gN l (8*q+t)
theorem xW{w:World}{v:Value}{l:List Nat}(h:ai w eJ v l)(k:Nat)(o:k<l.length) :
  ∃ b d m,v=.slice (some ⟨b,d,none⟩) l.length m/\w.cell? ⟨b,d+k,none⟩=some (N l[k]):=by
 obtain⟨b,d,m,rfl,A,B,q⟩:=h.cells (by intro e;simp [e]at o);have z:=q k o 0 (by decide) _ rfl;exact⟨b,d,m,rfl,by simpa [eJ] using z⟩
theorem P5(d:List Hd):aQ.cells d=d.map Hd.v:=by
 induction d with
 | nil=>rfl
 | cons p d e=>show [p.v]++aQ.cells d=_;rw [e];rfl
theorem sj{w:World}{v:Value}{l:List UInt8}(h:ai w eB v l):∃ p:Hd,v=p.v:=by
 obtain⟨a,d,e,_⟩:=h.shape;exact⟨⟨a,_,d⟩,e⟩
theorem xQ(w:World)(m:Array Value)(T:TypeId)(d:List Hd)(e:List (List UInt8))(n:Nat)(z:n=d.length)(A:m.toList=d.map Hd.v)(B:d.length=e.length)(D:d.length<=1000000)(h:∀ i (o:i<d.length) (q:i<e.length),ai w eB d[i].v e[i]) :
  dl (w.alloc (.cells m T)) aQ eB (.slice (some ⟨w.heap.size,0,none⟩) n n) d e:=
 ⟨l8 aQ w d m T n z (by rw [A,P5]) (by unfold maxLen;omega),B,fun i o q=>(h i o q).fr ((Fr.refl w).alloc _)⟩
theorem Q6(m o:Value)(d lb:List UInt8)(W:World)(q:ai W eB m d)(z:ai W eB o lb)(J:d.length+lb.length<=1000000) :
  Calls Tryz.prog 32 #[.slice (some ⟨W.heap.size,0,none⟩) 2 2] (W.alloc (.cells #[m,o] 22)) fun e h=>∃ v,e=.returned v/\Ow h W.heap.size eB v (d++lb)/\Fr W h:=by
 obtain⟨A,rfl⟩:=sj q;obtain⟨B,rfl⟩:=sj z;have D := xQ W #[A.v, B.v] 22 [A, B] [d, lb] 2 rfl rfl rfl (by simp) (fun i F D => by
  match i, F with
  | 0, _ => exact q
  | 1, _ => exact z)
 refine(vh _ _ _ _ D (by simp;omega)).mono ?_;rintro e h ⟨v,rfl,G,I⟩;exact⟨v,rfl,by simpa using G.rebase (b:=W.heap.size) (by simp),((Fr.refl W).alloc _).trans I⟩
theorem Q4(o q z:Value)(d lb h:List UInt8)(W:World)(A:ai W eB o d)(B:ai W eB q lb)(D:ai W eB z h)(O:d.length+lb.length+h.length<=1000000) :
  Calls Tryz.prog 32 #[.slice (some ⟨W.heap.size,0,none⟩) 3 3] (W.alloc (.cells #[o,q,z] 22)) fun e m=>∃ v,e=.returned v/\Ow m W.heap.size eB v (d++lb++h)/\Fr W m:=by
 obtain⟨F,rfl⟩:=sj A;obtain⟨G,rfl⟩:=sj B;obtain⟨I,rfl⟩:=sj D;have J := xQ W #[F.v, G.v, I.v] 22 [F, G, I] [d, lb, h] 3 rfl rfl rfl (by simp) (fun i K J => by
  match i, K with
  | 0, _ => exact A
  | 1, _ => exact B
  | 2, _ => exact D)
 refine(vh _ _ _ _ J (by simp;omega)).mono ?_;rintro e m ⟨v,rfl,L,M⟩;exact⟨v,rfl,by simpa using L.rebase (b:=W.heap.size) (by simp),((Fr.refl W).alloc _).trans M⟩
def JX(d:List Nat)(e:Nat->List UInt8)(k:Nat):List UInt8:=((List.range k).map fun i=>bI (d.getD i 0)++bI (e i).length).flatten
def Tk(d:List Nat)(e:Nat->List UInt8)(a b:Nat):List UInt8:=(((bI d.sum++bI d.length)++JX d e d.length)++bI a)++bI b
theorem yd(d:List Nat)(k:Nat):(d.take k).sum<=d.sum:=by
 conv=>rhs;rw [<- j9 k d]
 rw [qf];omega
theorem Qj(o:dN)(w:World):Calls Tryz.prog 64 #[cS o] w fun e h=>e=.returned (.int .i64 (if gF o then 0 else 9))/\Fr w h:=by
 have d:=ad (fun W=>EB ⟨o.b,o.plain,o.bu,0,0,0⟩ ⟨rfl,rfl,rfl⟩ W);have m:Hid ((if gF ⟨o.b,o.plain,o.bu,0,0,0⟩then(0:Int)else 9)=if gF o then 0 else 9):=rfl;rw [m.out]at d;generalize (if gF o then(0:Int)else 9)=R at *;go_enter Tryz.func64, Tryz.ntmps64;go_wp2_with fail;refine(d.out _).mono ?_;rintro e z ⟨rfl,q⟩;go_wp2_with fail;go_ret;exact⟨rfl,((Fr.refl w).alloc _).trans q⟩
theorem aI{w:World}{v:Value}{l:List Nat}(h:ai w eJ v l)(k:Nat)(e:k<l.length):∃ b d m,v=.slice (some ⟨b,d,none⟩) l.length m/\w.cell? ⟨b,d+k,none⟩=some (N l[k]):=h.cell1 N rfl k e
theorem wk(l:List Nat)(k:Nat)(h:k<l.length):(l.take (k+1)).sum=(l.take k).sum+l[k]:=by
 rw [gy h,qf];simp
def SL(d:Nat->List UInt8)(k:Nat):List Nat:=(List.range k).map fun i=>(d i).length
theorem Cf(l:List UInt8)(h:l.length<=4):bh l=(0,1):=by unfold bh;rw [ag h]
theorem Ch(l:List UInt8)(h:¬l.length<=4)(d:¬l.take 4=[70,73,82,75]):bh l=(0,3):=by unfold bh;rw [ae h,ae d]
theorem Ce(l:List UInt8)(h:¬l.length<=4)(d:l.take 4=[70,73,82,75])(e:1<=(l.getD 4 0).toNat/\(l.getD 4 0).toNat<=3):bh l=((l.getD 4 0).toNat,0):=by unfold bh;rw [ae h,ag d,ag e]
theorem Cg(l:List UInt8)(h:¬l.length<=4)(d:l.take 4=[70,73,82,75])(e:¬(1<=(l.getD 4 0).toNat/\(l.getD 4 0).toNat<=3)):bh l=(0,4):=by unfold bh;rw [ae h,ag d,ae e]
theorem uW(v:Value)(l:List UInt8)(w:World)(q:ai w eB v l) :
  Calls Tryz.prog 20 #[v] w fun e I=>e=.returned (.tuple #[N (bh l).1,.int .i64 ((bh l).2:Int)])/\Fr w I:=by
 obtain⟨V,X,rfl,Y,J,_⟩:=q.shape;unfold maxLen at J;by_cases o:l.length<=4;· have K:(l.length:Int)<=4:=(by omega);have m:=ad (Cf l o);rw [m.out];go_enter Tryz.func20, Tryz.ntmps20;go_wp2_with fail;go_ret2;exact⟨rfl,Fr.refl w⟩
 · have K:¬(l.length:Int)<=4:=(by omega);obtain⟨Z,D⟩:=gD eB 22 Tryz.underlying22 q 4 (by omega);have z:=fun W (h:Fr w W)=>uD _ (l.take 4) W (D.fr h);have aa:=ad z;have L:=z w (Fr.refl w);clear z;have i1:(4:Int)<l.length:=(by omega);by_cases d:l.take 4=[70,73,82,75]
   · rw [d]at L;obtain⟨b,M,cp,F,A⟩:=q.cell1 Fk.u8 rfl 4 (by omega);simp only [go]at F;obtain⟨rfl,O,rfl⟩:=F;clear O;rw [<- cZ l 4 0 (by omega)]at A;have aj:w.cell? ⟨b,M+4,none⟩=some (.int .u8 ((l.getD 4 0).toNat:Int)):=A;have Q:=ad (Ce l o d);have R:=ad (Cg l o d);have U:=ad (fun x=>mR x 1 3);have ak:=(l.getD 4 0).toNat_lt;generalize (l.getD 4 0).toNat=x at *;generalize bh l=mv at *;have av:IntKind.i64.wrap (x:Int)=(x:Int):=iJ _ (by omega);clear A D d;go_enter Tryz.func20, Tryz.ntmps20;go_wp2_with fail;refine((U.out _) _).mono ?_;rintro e w1 ⟨rfl,rfl⟩;by_cases G:1<=x/\x<=3;· have m:=ad (Q.out G);have B:decide ((1:Int)<=(x:Int)/\(x:Int)<=3)=true:=bt (by omega);rw [B];go_wp2_with fail;go_ret2;exact⟨by rw [m.out];rfl,Fr.refl w⟩
     · have m:=ad (R.out G);have B:decide ((1:Int)<=(x:Int)/\(x:Int)<=3)=false:=aX (by omega);rw [B];go_wp2_with fail;go_ret2;exact⟨by rw [m.out];rfl,Fr.refl w⟩
   · have m:=ad (Ch l o d);rw [m.out];have a2:¬(⟨(l.take 4).toArray⟩:ByteArray)=⟨#[70,73,82,75]⟩:=(by intro e;have:=gS (fun b:ByteArray=>b.data.toList) e;exact d (by simpa using this));have a3:(l.take 4 == [70,73,82,75])=false:=(by simpa using d);have a4:¬(l.take 4).toArray=#[70,73,82,75]:=fun e=>d (by simpa using gS Array.toList e);go_enter Tryz.func20, Tryz.ntmps20;go_wp2_with fail;go_ret2;exact⟨rfl,Fr.refl w⟩
theorem Dh(l:List UInt8):(bP l=0)↔bF l=true:=by
 unfold bP;cases h:bF l;· simp;split <;> omega
 · simp
theorem Dy(v:Value)(l:List UInt8)(w:World)(m:ai w eB v l)(V:l.length<=1000000)(I:bK w) :
  Calls Tryz.prog 78 #[v] w fun e X=>e=.returned (.bool (ik l))/\Fr w X:=by
 have Y:=ad (oQ v l w m V I);have J:=ad (fun W (h:Fr w W)=>uW v l W (m.fr h));have o:Hid (ik l=(bF l && decide (bh l=(3,0)))):=rfl;have K:=ad (Dh l);obtain⟨a0,ak,rfl,_⟩:=m.shape;clear m I;generalize ik l=R at *;generalize Z:bh l=mv at *;obtain⟨B,L⟩:=mv;clear Z;generalize bF l=M at *;generalize bP l=O at *;generalize aS l=q at *;simp only at J;go_enter Tryz.func78, Tryz.ntmps78;go_wp2_with fail;refine(Y.out).mono ?_;rintro e w1 ⟨u,rfl,Q,U⟩;obtain⟨p1,z1,rfl⟩:=Q.shape';clear Q;go_wp2_with fail;refine(J.out _ U).mono ?_;rintro e w2 ⟨rfl,ab⟩;have z:=U.trans ab;by_cases A:O=0
 · have D:=K.out.1 A;subst D A;by_cases F:L=0
   · subst F;by_cases G:B=3;· subst G;have d:Hid (R=true):=(by show _=_;rw [o.out];rfl);go_wp2_with fail;go_ret;exact⟨by rw [d.out];rfl,z⟩
     · have ac:¬(B:Int)=3:=(by omega);have d:Hid (R=false):=(by show _=_;rw [o.out,oW];exact aX (fun e=>G (Prod.mk.inj e).1));have hb:((B:Int) == 3)=false:=(by simpa using ac);clear G;go_wp2_with fail;go_ret;exact⟨by rw [d.out];rfl,z⟩
   · have a4:¬(L:Int)=0:=(by omega);have d:Hid (R=false):=(by show _=_;rw [o.out,oW];exact aX (fun e=>F (Prod.mk.inj e).2));clear F;go_wp2_with fail;go_ret;exact⟨by rw [d.out];rfl,z⟩
 · have D:M=false:=(by cases M;rfl;exact absurd (K.out.2 rfl) A);have a5:¬(O:Int)=0:=(by omega);have d:Hid (R=false):=(by show _=_;rw [o.out,D];rfl);clear A;go_wp2_with fail;go_ret;exact⟨by rw [d.out];rfl,z⟩
theorem OZ(v:Value)(l:List UInt8)(w:World)(d:ai w eB v l)(m:l.length<42) :
  Calls Tryz.prog 77 #[v] w fun e h=>e=.returned (.tuple #[.slice none 0 0,.slice none 0 0,.bool false])/\Fr w h:=by
 obtain⟨o,q,rfl,_⟩:=d.shape;have z:(l.length:Int)<42:=by omega
 go_enter Tryz.func77, Tryz.ntmps77;go_wp2_with fail;exact aL (v:=.tuple #[.slice none 0 0,.slice none 0 0,.bool false]) (by simp [results,Tryz.results77,go_sem, *]) rfl ⟨rfl,Fr.refl w⟩
theorem D0(v:Value)(l:List UInt8)(w:World)(d:ai w eB v l)(O:42<=l.length) :
  Calls Tryz.prog 77 #[v] w fun e h=>∃ o q,e=.returned (.tuple #[o,q,.bool true])/\ai h eB o (l.take 21)/\ai h eB q (l.drop (l.length - 21))/\Fr w h:=by
 obtain⟨D,F,rfl,Q,G,_⟩:=d.shape;unfold maxLen at G;have R:¬(l.length:Int)<42:=by omega
 obtain⟨U,z⟩:=gD eB 22 Tryz.underlying22 d 21 (by omega);obtain⟨I,J,V,B⟩:=iy eB 22 Tryz.underlying22 d (l.length - 21) (by omega);have X:IntKind.i64.wrap ((l.length:Int) - 21)=((l.length - 21:Nat):Int):=by rw [show(l.length:Int) - 21=((l.length - 21:Nat):Int) by omega];exact aw _ (by omega)
 have K:=ad z;have L:=ad B;clear z B d;generalize l.length - (l.length - 21)=m at *;generalize M:l.length - 21=k at *;clear M;go_enter Tryz.func77, Tryz.ntmps77;go_wp2_with fail;go_quiet (fail);go_wp2_with fail;exact aL (v:=.tuple #[.slice D 21 F,.slice I m J,.bool true]) (by simp [results,Tryz.results77,go_sem, *]) rfl ⟨_,_,rfl,K.out.fr ((Fr.refl w).drewN _),L.out.fr ((Fr.refl w).drewN _),(Fr.refl w).drewN _⟩
def ax(l:List UInt8):List UInt8:=if ik (l.take 21)then l.take 21 else l.drop (l.length - 21)
def em(l:List UInt8):Bool:=ik (l.take 21) || ik (l.drop (l.length - 21))
theorem DD(v:Value)(l:List UInt8)(w:World)(d:ai w eB v l)(h:l.length<42) :
  Calls Tryz.prog 43 #[v] w fun e m=>e=.returned (.tuple #[.slice none 0 0,.int .i64 1])/\Fr w m:=by
 have o:=ad (OZ v l w d h);obtain⟨z,A,rfl,_⟩:=d.shape;clear d;go_enter Tryz.func43, Tryz.ntmps43;go_wp2_with fail;refine(o.out).mono ?_;rintro e B ⟨rfl,q⟩;go_wp2_with fail;go_ret2;exact⟨rfl,q⟩
theorem DE(v:Value)(l:List UInt8)(w:World)(z:ai w eB v l)(Z:42<=l.length)(A:bK w) :
  Calls Tryz.prog 43 #[v] w fun e M=>∃ u,e=.returned (.tuple #[u,.int .i64 ((if em l then 0 else 5:Nat):Int)])/\(em l=true->ai M eB u (ax l))/\(em l=false->u=.slice none 0 0)/\Fr w M:=by
 have HC:=ad (D0 v l w z Z);have H1:=ad (fun W m (h:ai W eB m (l.take 21)) (B:Fr w W)=>Dy m (l.take 21) W h (by rw [aG];omega) (A.fr B));have H2:=ad (fun W m (h:ai W eB m (l.drop (l.length - 21))) (B:Fr w W)=>Dy m (l.drop (l.length - 21)) W h (by rw [aU];omega) (A.fr B));have D:Hid (em l=(ik (l.take 21) || ik (l.drop (l.length - 21)))):=rfl;have O:Hid (ax l=if ik (l.take 21)then l.take 21 else l.drop (l.length - 21)):=rfl;obtain⟨a0,a4,rfl,_⟩:=z.shape;clear z A;generalize l.take 21=Q at *;generalize l.drop (l.length - 21)=U at *;generalize ik Q=b1 at *;generalize ik U=b2 at *;generalize em l=R at *;generalize ax l=H at *;obtain⟨ec,F⟩:∃ q:Nat,q=(if R then 0 else 5):=⟨_,rfl⟩;rw [<- F];have G:=ad F;clear F;go_enter Tryz.func43, Tryz.ntmps43;go_wp2_with fail;refine(HC.out).mono ?_;rintro e w1 ⟨m,v2,rfl,I,J,V⟩;have av:=ad (H1.out w1 m I V);obtain⟨p1,z1,rfl,_⟩:=I.shape;obtain⟨p2,z2,rfl,_⟩:=J.shape;go_wp2_with fail;refine(av.out).mono ?_;rintro e w2 ⟨rfl,o⟩;have K:=V.trans o
 cases b1 with
 | true=>have d:Hid (R=true):=(by show _=_;rw [D.out];rfl);have L:Hid (H=Q):=(by show _=_;rw [O.out];rfl);go_wp2_with fail;go_ret2;exact⟨_,by rw [G.out,d.out];rfl,fun _=>by rw [L.out];exact I.fr o,fun h=>(by rw [d.out]at h;cases h),K⟩
 | false=>
  have L:Hid (H=U):=(by show _=_;rw [O.out];rfl);have a2:=ad (H2.out w2 _ (J.fr o) K);go_wp2_with fail;refine(a2.out).mono ?_;rintro e w3 ⟨rfl,X⟩;have Y:=K.trans X
  cases b2 with
  | true=>have d:Hid (R=true):=(by show _=_;rw [D.out];rfl);go_wp2_with fail;go_ret2;exact⟨_,by rw [G.out,d.out];rfl,fun _=>by rw [L.out];exact J.fr (o.trans X),fun h=>(by rw [d.out]at h;cases h),Y⟩
  | false=>have d:Hid (R=false):=(by show _=_;rw [D.out];rfl);go_wp2_with fail;go_ret2;exact⟨_,by rw [G.out,d.out];rfl,fun h=>(by rw [d.out]at h;cases h),fun _=>rfl,Y⟩
theorem R4(v:Value)(l:List UInt8)(w:World)(z:ai w eB v l)(hn:l.length<=1000000) :
  Calls Tryz.prog 24 #[v] w fun e O=>∃ u,e=.returned (.tuple #[u,.int .i64 (bP l:Int)])/\Ow O w.heap.size eB u (aS l)/\Fr w O:=by
 obtain⟨a0,a5,rfl,a6,Z,_⟩:=z.shape;unfold maxLen at Z;by_cases F:l.length<4;· have G:bF l=false:=(by unfold bF;rw [aX (by omega),Bool.false_and]);have d:Hid (bP l=1):=(by show _=_;unfold bP;rw [G];simp [F]);have m:Hid (aS l=[]):=(by show _=_;unfold aS;rw [G];simp);rw [m.out,d.out];have a7:(l.length:Int)<4:=(by omega);clear G d m;go_enter Tryz.func24, Tryz.ntmps24;go_wp2_with fail;go_ret2;exact⟨_,rfl,Ow.nil,Fr.refl w⟩
 · obtain⟨n,I⟩:∃ n,n=l.length - 4:=⟨_,rfl⟩;obtain⟨aC,J⟩:=gD eB 22 Tryz.underlying22 z n (by omega);have Q:(l.take n).length=n:=(by rw [aG];omega);have U:bF l=decide (fV (l.take n)=l):=(by unfold bF;rw [bt (by omega),oW,I]);have HP:=ad (fun W (h:Fr w W)=>Ri _ (l.take n) W (J.fr h) (by omega));have V:=ad (fun W v' (h:Fr w W) (h2:ai W eB v' (fV (l.take n)))=>Rg v' _ (fV (l.take n)) l W h2 (z.fr h));rw [<- U]at V;have HT:=ad (fun W (h:Fr w W)=>J.fr h);have d:Hid (bP l=if bF l then 0 else 5):=(by show _=_;unfold bP;simp [F]);have m:Hid (aS l=if bF l then l.take n else []):=(by show _=_;rw [I];rfl);have hw:IntKind.i64.wrap ((l.length:Int) - 4)=(n:Int):=(by rw [aw _ (by omega)];omega);have bb:¬(l.length:Int)<4:=(by omega);have aj:=ad Q;have bc:n<=1000000:=(by omega);rw [d.out,m.out];clear d m U z J Q I F;generalize bF l=R at *;generalize fV (l.take n)=B at *;generalize l.take n=q at *;go_enter Tryz.func24, Tryz.ntmps24;go_wp2_with fail;refine(HP.out _ (Fr.refl w)).mono ?_;rintro e o ⟨v1,rfl,K,A⟩;have ap:=ad (V.out o v1 A K.see);obtain⟨p1,z1,rfl⟩:=K.shape';clear K;go_wp2_with fail;refine ap.out.mono ?_;rintro e w2 ⟨rfl,rfl⟩;cases R;· go_wp2_with fail;go_ret2;exact⟨_,rfl,Ow.nil,A⟩
   · have L:Ow (o.alloc (.cells #[] 5)) w.heap.size eB (.slice (some ⟨o.heap.size,0,none⟩) 0 0) []:=n9 eB o #[] [] 0 rfl (an _) A.size;have D:Fr w (o.alloc (.cells #[] 5)):=A.alloc _;have X:=HT.out _ D;go_wp2_with (at_builtin;refine jb eB rfl (.tmp 16) (.tmp 21) 22 rfl Tryz.underlying22 w.heap.size rfl L _ _ rfl X ?c1 D.size ?_);case c1=>rw [aj.out];simp;omega
     intro v5 w5 M;have a2:=M.below L D (am _) D.size;have Y:Ow w5 w.heap.size eB v5 q:=(by simpa using M.own);obtain⟨p5,z5,rfl⟩:=Y.shape';clear M L X;go_wp2_with fail;go_ret2;exact⟨_,rfl,Y,a2⟩
theorem E6(v:Value)(l:List UInt8)(w:World)(G:ai w eB v l) :
  Calls Tryz.prog 22 #[v] w fun e w'=>e=.returned (.tuple #[N (bh l).1,.int .i64 ((bh l).2:Int)])/\w=w':=by
 obtain⟨a0,bb,rfl,bc,ak,_⟩:=G.shape;unfold maxLen at ak;by_cases I:l.length<=4;· have bd:(l.length:Int)<5:=(by omega);have d:=ad (Cf l I);generalize bh l=mv at *;go_enter Tryz.func22, Tryz.ntmps22;go_wp2_with fail;go_ret2;exact⟨by rw [d.out];rfl,rfl⟩
 · obtain⟨b,z,cp,V,c0⟩:=G.cell1 Fk.u8 rfl 0 (by omega);simp only [go]at V;obtain⟨rfl,_,rfl⟩:=V;have o:∀ i (h:i<l.length),w.cell? ⟨b,z+i,none⟩=some (.int .u8 (l[i].toNat:Int)):=fun i h=>(by obtain⟨b',bl,bm,X,c'⟩:=G.cell1 Fk.u8 rfl i h;simp only [go,lQ,Addr.mk.injEq,nU]at X;obtain⟨⟨rfl,rfl⟩,_,_⟩:=X;exact c');have L:=o 0 (by omega);have Y:=o 1 (by omega);have Z:=o 2 (by omega);have d3:=o 3 (by omega);have d4:=o 4 (by omega);rw [et]at L;have ht:l.take 4=[l[0]'(by omega),l[1]'(by omega),l[2]'(by omega),l[3]'(by omega)]:=by
    apply lj;· simp;omega
    · intro i bu a2;rw [oV];have:i<4:=by simpa using a2
      match i,this with
      | 0,_=>rfl
      | 1,_=>rfl
      | 2,_=>rfl
      | 3,_=>rfl
   have M:=ad (fun m=>Ch l I m);have J:=ad (fun m=>Ce l I m);have K:=ad (fun m=>Cg l I m);rw [ht]at M J K;rw [cZ l 4 0 (by omega)]at J K;have i0:¬(l.length:Int)<5:=(by omega);have i1:(0:Int)<l.length:=(by omega);have i2:(1:Int)<l.length:=(by omega);have i3:(2:Int)<l.length:=(by omega);have i4:(3:Int)<l.length:=(by omega);have i5:(4:Int)<l.length:=(by omega);clear o c0 G ht;generalize l[0]'(by omega)=A at *;generalize l[1]'(by omega)=B at *;generalize l[2]'(by omega)=D at *;generalize l[3]'(by omega)=F at *;generalize l[4]'(by omega)=q at *;generalize bh l=mv at *;by_cases O:A=70/\B=73/\D=82/\F=75
   · obtain⟨rfl,rfl,rfl,rfl⟩:=O;have e0:w.cell? ⟨b,z,none⟩=some (.int .u8 70):=L;have e1:w.cell? ⟨b,z+1,none⟩=some (.int .u8 73):=Y;have e2:w.cell? ⟨b,z+2,none⟩=some (.int .u8 82):=Z;have e3:w.cell? ⟨b,z+3,none⟩=some (.int .u8 75):=d3;clear L Y Z d3;by_cases hx:1<=q.toNat/\q.toNat<=3;· have d:=ad (J.out rfl hx);have a3:¬(q.toNat:Int)<1:=(by omega);have a4:¬(3:Int)<q.toNat:=(by omega);generalize q.toNat=x at *;go_enter Tryz.func22, Tryz.ntmps22;go_wp2_with fail;go_ret2;exact⟨by rw [d.out];rfl,rfl⟩
     · have d:=ad (K.out rfl hx);generalize q.toNat=x at *;by_cases a3:(x:Int)<1;· go_enter Tryz.func22, Tryz.ntmps22;go_wp2_with fail;go_ret2;exact⟨by rw [d.out];rfl,rfl⟩
       · have a4:(3:Int)<x:=(by omega);go_enter Tryz.func22, Tryz.ntmps22;go_wp2_with fail;go_ret2;exact⟨by rw [d.out];rfl,rfl⟩
   · have d:=ad (M.out (fun e=>O (by simpa using e)));clear M J K;by_cases Q:A=70
     · subst Q;by_cases R:B=73
       · subst R;by_cases m:D=82
         · subst m;by_cases U:F=75;· subst U;exact absurd ⟨rfl,rfl,rfl,rfl⟩ O
           · have a5:¬(F.toNat:Int)=75:=fun e=>U (eA.1 (by show F.toNat=75;omega));have b8:((F.toNat:Int) != 75)=true:=(by simpa using a5);clear U;go_enter Tryz.func22, Tryz.ntmps22;go_wp2_with fail;go_ret2;exact⟨by rw [d.out];rfl,rfl⟩
         · have a6:¬(D.toNat:Int)=82:=fun e=>m (eA.1 (by show D.toNat=82;omega));have b9:((D.toNat:Int) != 82)=true:=(by simpa using a6);clear m;go_enter Tryz.func22, Tryz.ntmps22;go_wp2_with fail;go_ret2;exact⟨by rw [d.out];rfl,rfl⟩
       · have a7:¬(B.toNat:Int)=73:=fun e=>R (eA.1 (by show B.toNat=73;omega));have bA:((B.toNat:Int) != 73)=true:=(by simpa using a7);clear R;go_enter Tryz.func22, Tryz.ntmps22;go_wp2_with fail;go_ret2;exact⟨by rw [d.out];rfl,rfl⟩
     · have aC:¬(A.toNat:Int)=70:=fun e=>Q (eA.1 (by show A.toNat=70;omega));have bB:((A.toNat:Int) != 70)=true:=(by simpa using aC);clear Q;go_enter Tryz.func22, Tryz.ntmps22;go_wp2_with fail;go_ret2;exact⟨by rw [d.out];rfl,rfl⟩
theorem yZ(v:Value)(l:List UInt8)(w:World)(m:ai w eB v l)(U:l.length<=1000000) :
  Calls Tryz.prog 14 #[v] w fun e V=>e=.returned (.bool (ik l))/\Fr w V:=by
 have X:=ad (R4 v l w m U);have I:=ad (fun W (h:Fr w W)=>E6 v l W (m.fr h));have o:Hid (ik l=(bF l && decide (bh l=(3,0)))):=rfl;have J:=ad (Dh l);obtain⟨a0,ac,rfl,_⟩:=m.shape;clear m;generalize ik l=R at *;generalize Y:bh l=Z at *;obtain⟨B,K⟩:=Z;clear Y;generalize bF l=L at *;generalize bP l=M at *;generalize aS l=q at *;simp only at I;go_enter Tryz.func14, Tryz.ntmps14;go_wp2_with fail;refine(X.out).mono ?_;rintro e w1 ⟨u,rfl,O,Q⟩;obtain⟨p1,z1,rfl⟩:=O.shape';clear O;go_wp2_with fail;refine(I.out _ Q).mono ?_;rintro e w2 ⟨rfl,rfl⟩;have z:=Q;by_cases A:M=0
 · have D:=J.out.1 A;subst D A;by_cases F:K=0
   · subst F;by_cases G:B=3;· subst G;have d:Hid (R=true):=(by show _=_;rw [o.out];rfl);go_wp2_with fail;go_ret;exact⟨by rw [d.out];rfl,z⟩
     · have aa:¬(B:Int)=3:=(by omega);have d:Hid (R=false):=(by show _=_;rw [o.out,oW];exact aX (fun e=>G (Prod.mk.inj e).1));have hb:((B:Int) == 3)=false:=(by simpa using aa);clear G;go_wp2_with fail;go_ret;exact⟨by rw [d.out];rfl,z⟩
   · have a2:¬(K:Int)=0:=(by omega);have d:Hid (R=false):=(by show _=_;rw [o.out,oW];exact aX (fun e=>F (Prod.mk.inj e).2));clear F;go_wp2_with fail;go_ret;exact⟨by rw [d.out];rfl,z⟩
 · have D:L=false:=(by cases L;rfl;exact absurd (J.out.2 rfl) A);have a3:¬(M:Int)=0:=(by omega);have d:Hid (R=false):=(by show _=_;rw [o.out,D];rfl);clear A;go_wp2_with fail;go_ret;exact⟨by rw [d.out];rfl,z⟩
theorem R3(v:Value)(l:List UInt8)(w:World)(o:ai w eB v l) :
  Calls Tryz.prog 23 #[v] w fun e G=>e=.returned (.bool (decide (42<=l.length) && em l))/\Fr w G:=by
 obtain⟨Q,U,rfl,V,I,_⟩:=o.shape;unfold maxLen at I;by_cases A:l.length<42;· have d:Hid ((decide (42<=l.length) && em l)=false):=(by show _=_;rw [aX (by omega),Bool.false_and]);have J:¬(42:Int)<=l.length:=(by omega);rw [d.out];clear A;go_enter Tryz.func23, Tryz.ntmps23;go_wp2_with fail;go_ret;exact⟨rfl,Fr.refl w⟩
 · have J:(42:Int)<=l.length:=(by omega);obtain⟨X,B⟩:=gD eB 22 Tryz.underlying22 o 21 (by omega);obtain⟨Y,Z,aa,D⟩:=iy eB 22 Tryz.underlying22 o (l.length - 21) (by omega);have ab:IntKind.i64.wrap ((l.length:Int) - 21)=((l.length - 21:Nat):Int):=(by rw [show(l.length:Int) - 21=((l.length - 21:Nat):Int) by omega];exact aw _ (by omega));have K:=ad (fun W (h:Fr w W)=>yZ _ (l.take 21) W (B.fr h) (by rw [aG];omega));have L:=ad (fun W (h:Fr w W)=>yZ _ (l.drop (l.length - 21)) W (D.fr h) (by rw [aU];omega));have d:Hid ((decide (42<=l.length) && em l)=(ik (l.take 21) || ik (l.drop (l.length - 21)))):=(by show _=_;rw [bt (by omega),oW];rfl);rw [d.out];clear d o B D A;generalize l.length - (l.length - 21)=m at *;generalize ik (l.take 21)=F at *;generalize ik (l.drop (l.length - 21))=M at *;generalize l.length - 21=k at *;obtain⟨R,q⟩:∃ R,R=(F || M):=⟨_,rfl⟩;rw [<- q];have d:=ad q;clear q;go_enter Tryz.func23, Tryz.ntmps23;go_wp2_with fail;refine(K.out _ (Fr.refl w)).mono ?_;rintro e w2 ⟨rfl,z⟩
   cases F with
   | true=>go_wp2_with fail;go_ret;exact⟨by rw [d.out];rfl,z⟩
   | false=>go_wp2_with fail;refine(L.out _ z).mono ?_;rintro e w3 ⟨rfl,O⟩;go_wp2_with fail;go_ret;exact⟨by rw [d.out];rfl,z.trans O⟩
theorem QP(v:Value)(l:List UInt8)(w:World)(d:ai w eB v l)(G:bK w) :
  Calls Tryz.prog 21 #[v] w fun e K=>e=.returned (.bool (decide (42<=l.length) && em l))/\Fr w K:=by
 by_cases A:l.length<42;· have h:=ad (DD v l w d A);have m:Hid ((decide (42<=l.length) && em l)=false):=(by show _=_;rw [aX (by omega),Bool.false_and]);obtain⟨L,M,rfl,_⟩:=d.shape;rw [m.out];clear d A;go_enter Tryz.func21, Tryz.ntmps21;go_wp2_with fail;refine(h.out).mono ?_;rintro e O ⟨rfl,o⟩;go_wp2_with fail;go_ret;exact⟨rfl,o⟩
 · have h:=ad (DE v l w d (by omega) G);have m:Hid ((decide (42<=l.length) && em l)=em l):=(by show _=_;rw [bt (by omega),oW]);obtain⟨L,M,rfl,_⟩:=d.shape;rw [m.out];clear m d G A;generalize ax l=H at *;generalize em l=R at *;obtain⟨I,B⟩:∃ q:Nat,q=(if R then 0 else 5):=⟨_,rfl⟩;rw [<- B]at h;have J:=ad B;clear B;go_enter Tryz.func21, Tryz.ntmps21;go_wp2_with fail;refine(h.out).mono ?_;rintro e O ⟨u,rfl,Q,U,o⟩
   cases R with
   | true=>have D:I=0:=J.out;obtain⟨p,z,F,_⟩:=(Q rfl).shape;subst D F;go_wp2_with fail;go_ret;exact⟨rfl,o⟩
   | false=>have D:I=5:=J.out;have F:=U rfl;subst D F;go_wp2_with fail;go_ret;exact⟨rfl,o⟩
def bo(b:List UInt8):Nat × Nat:=
 if(bh b).1=1\/(bh b).1=2 then((bh b).1,0)
 else if(decide (42<=b.length) && em b)=true then(3,0)
 else if(bh b).1=3 then(0,5)
 else(0,(bh b).2)
theorem vS(b:List UInt8)(h:(bh b).1=1\/(bh b).1=2):bo b=((bh b).1,0):=ag h
theorem zU(b:List UInt8)(h:¬((bh b).1=1\/(bh b).1=2))(d:(decide (42<=b.length) && em b)=true):bo b=(3,0):=by unfold bo;rw [ae h,ag d]
theorem zS(b:List UInt8)(h:¬((bh b).1=1\/(bh b).1=2))(d:(decide (42<=b.length) && em b)=false)(e:(bh b).1=3):bo b=(0,5):=by unfold bo;rw [ae h,ae (by rw [d];simp),ag e]
theorem zT(b:List UInt8)(h:¬((bh b).1=1\/(bh b).1=2))(d:(decide (42<=b.length) && em b)=false)(e:¬(bh b).1=3):bo b=(0,(bh b).2):=by unfold bo;rw [ae h,ae (by rw [d];simp),ae e]
theorem zg(v:Value)(b:List UInt8)(w:World)(I:ai w eB v b)(L:bK w) :
  Calls Tryz.prog 12 #[v] w fun e Q=>e=.returned (.tuple #[N (bo b).1,.int .i64 ((bo b).2:Int)])/\Fr w Q:=by
 have A:=ad (uW v b w I);have K:=ad (fun W (h:Fr w W)=>QP v b W (I.fr h) (L.fr h));have M:=ad (vS b);have R:=ad (zU b);have U:=ad (zS b);have X:=ad (zT b);obtain⟨a0,aj,rfl,_⟩:=I.shape;clear I L;generalize (decide (42<=b.length) && em b)=Y at *;generalize bo b=V at *;generalize (bh b).1=m at *;generalize (bh b).2=er at *;by_cases B:m=1;· have o:=M.out (.inl B);subst o B;go_enter Tryz.func12, Tryz.ntmps12;go_wp2_with fail;refine(A.out).mono ?_;rintro e q ⟨rfl,d⟩;go_wp2_with fail;go_ret2;exact⟨rfl,d⟩
 · by_cases D:m=2;· have o:=M.out (.inr D);subst o D;go_enter Tryz.func12, Tryz.ntmps12;go_wp2_with fail;refine(A.out).mono ?_;rintro e q ⟨rfl,d⟩;go_wp2_with fail;go_ret2;exact⟨rfl,d⟩
   · have z:¬(m=1\/m=2):=(by omega);have Z:¬(m:Int)=1:=(by omega);have j2:¬(m:Int)=2:=(by omega);have b1:((m:Int) == 1)=false:=(by simpa using Z);have b2:((m:Int) == 2)=false:=by simpa using j2
     cases Y with
     | true=>have o:=R.out z rfl;subst o;clear B D z;go_enter Tryz.func12, Tryz.ntmps12;go_wp2_with fail;refine(A.out).mono ?_;rintro e q ⟨rfl,d⟩;have F:=ad (K.out q d);go_wp2_with fail;refine(F.out).mono ?_;rintro e O ⟨rfl,G⟩;go_wp2_with fail;go_ret2;exact⟨rfl,d.trans G⟩
     | false=>
      by_cases J:m=3;· have o:=U.out z rfl J;subst o J;clear B D z;go_enter Tryz.func12, Tryz.ntmps12;go_wp2_with fail;refine(A.out).mono ?_;rintro e q ⟨rfl,d⟩;have F:=ad (K.out q d);go_wp2_with fail;refine(F.out).mono ?_;rintro e O ⟨rfl,G⟩;go_wp2_with fail;go_ret2;exact⟨rfl,d.trans G⟩
      · have o:=X.out z rfl J;have j3:¬(m:Int)=3:=(by omega);have b3:((m:Int) == 3)=false:=(by simpa using j3);subst o;clear B D z J;go_enter Tryz.func12, Tryz.ntmps12;go_wp2_with fail;refine(A.out).mono ?_;rintro e q ⟨rfl,d⟩;have F:=ad (K.out q d);go_wp2_with fail;refine(F.out).mono ?_;rintro e O ⟨rfl,G⟩;go_wp2_with fail;go_ret2;exact⟨rfl,d.trans G⟩
theorem Re(v:Value)(b:List UInt8)(w:World)(B:ai w eB v b) :
  Calls Tryz.prog 13 #[v] w fun e K=>e=.returned (.tuple #[N (bo b).1,.int .i64 ((bo b).2:Int)])/\Fr w K:=by
 have o:=ad (E6 v b w B);have G:=ad (R3 v b w B);have I:=ad (vS b);have L:=ad (zU b);have M:=ad (zS b);have O:=ad (zT b);obtain⟨Y,Z,rfl,_⟩:=B.shape;clear B;generalize (decide (42<=b.length) && em b)=Q at *;generalize bo b=V at *;generalize (bh b).1=m at *;generalize (bh b).2=er at *;by_cases q:m=1;· have d:=I.out (.inl q);subst d q;go_enter Tryz.func13, Tryz.ntmps13;go_wp2_with fail;refine(o.out).mono ?_;rintro e D ⟨rfl,rfl⟩;go_wp2_with fail;go_ret2;exact⟨rfl,Fr.refl _⟩
 · by_cases z:m=2;· have d:=I.out (.inr z);subst d z;go_enter Tryz.func13, Tryz.ntmps13;go_wp2_with fail;refine(o.out).mono ?_;rintro e D ⟨rfl,rfl⟩;go_wp2_with fail;go_ret2;exact⟨rfl,Fr.refl _⟩
   · have h:¬(m=1\/m=2):=(by omega);have R:¬(m:Int)=1:=(by omega);have U:¬(m:Int)=2:=(by omega);have b1:((m:Int) == 1)=false:=(by simpa using R);have b2:((m:Int) == 2)=false:=by simpa using U
     cases Q with
     | true=>have d:=L.out h rfl;subst d;clear q z h;go_enter Tryz.func13, Tryz.ntmps13;go_wp2_with fail;refine(o.out).mono ?_;rintro e D ⟨rfl,rfl⟩;go_wp2_with fail;refine(G.out).mono ?_;rintro e J ⟨rfl,A⟩;go_wp2_with fail;go_ret2;exact⟨rfl,A⟩
     | false=>
      by_cases F:m=3;· have d:=M.out h rfl F;subst d F;clear q z h;go_enter Tryz.func13, Tryz.ntmps13;go_wp2_with fail;refine(o.out).mono ?_;rintro e D ⟨rfl,rfl⟩;go_wp2_with fail;refine(G.out).mono ?_;rintro e J ⟨rfl,A⟩;go_wp2_with fail;go_ret2;exact⟨rfl,A⟩
      · have d:=O.out h rfl F;have X:¬(m:Int)=3:=(by omega);have b3:((m:Int) == 3)=false:=(by simpa using X);subst d;clear q z h F;go_enter Tryz.func13, Tryz.ntmps13;go_wp2_with fail;refine(o.out).mono ?_;rintro e D ⟨rfl,rfl⟩;go_wp2_with fail;refine(G.out).mono ?_;rintro e J ⟨rfl,A⟩;go_wp2_with fail;go_ret2;exact⟨rfl,A⟩
theorem PM(B base n a:Nat)(l:List UInt8)(w:World)(d:dC w B base l n a)(hl:l.length<=1000000) :
  Calls Tryz.prog 262 #[.pointer (some ⟨B,0,none⟩)] w fun e K=>e=.returned (.tuple #[N (du l a).1,.int .i64 ((du l a).2.2:Int)])/\dC K B base l n (du l a).2.1/\ah (fun b=>b=B) w K:=by
 have L:=ad (fun W j (h:Qt w W) (hj:j<n)=>Em B base n a j l W (d.fr h.fr) hl hj);have M:=ad d;have ba:n<=8000000:=by have:=d.eq;omega
 have O:Hid (du l a=match ir l (n - a) a with | some i=>(i - a,i+1,0) | none=>(0,a,1)):=by show _=_;unfold du;rw [d.eq];cases ir l (8*l.length - a) a <;> rfl
 have HS:Hid (∀ i,i<n->ir l (n - i) i=if fs l i=1 then some i else ir l (n - (i+1)) (i+1)):=fun i h=>by have h2:=d.eq;subst h2;exact Gj l i h
 have HE:Hid (ir l (n - n) n=none):=by show _=_;rw [gu];rfl
 obtain⟨⟨v,D,Q⟩,hn,av⟩:=d;have c1:=af D 1 rfl;have c2:=af D 2 rfl;have a1:=Q.ne_cells D (by decide);clear hn;generalize du l a=U at *;go_enter Tryz.func262, Tryz.ntmps262;go_wp2_with fail;go_loopw [4] (fun G wr=>∃ i:Nat,a<=i/\i<=n/\G=N i/\Hid (ir l (n - a) a=ir l (n - i) i)/\Qt w wr) (fun G _=>n - (intOf G).toNat);case atStart=>exact⟨a,am _,av,rfl,rfl,Qt.refl _⟩
 case round=>
  obtain⟨i,bb,bc,rfl,m,o⟩:=hrel;have R:=o.fr.cell c1;by_cases V:i<n
  · have q:=ad (L.out wr i o V);have F:=ad (HS.out i V);have X:=uS l i;have j1:(i:Int)<n:=(by omega);by_cases z:fs l i=1;· have I:Hid (U=(i - a,i+1,0)):=(by show _=_;rw [O.out,m.out,F.out,ag z]);rw [z]at q;clear F m z X;go_wp2_with fail;refine(q.out).mono ?_;rintro e w1 ⟨rfl,rfl⟩;have A:=o;have J:=A.fr.heap D;have d2:=af J 2 rfl;have z2:=al J 2;have Y:=ao wr ⟨B,2,none⟩ (.int .i64 ((i:Int)+1));have a4:=a8 J 2 (.int .i64 ((i:Int)+1));have a5:=(Q.fr A.fr).chg Y (fun i hi e=>a1 (by rw [hi,show i=B from e]));have a7:=(A.fr.chg _).trans Y fun _ _ h=>h;have bk:IntKind.i64.wrap ((i:Int) - a)=(i:Int) - a:=aw _ (by omega);clear q L R;go_wp2_with fail;go_ret2;rw [I.out];exact⟨by simp [N];omega,⟨⟨v,a4,a5⟩,M.out.eq,by show i+1<=n;omega⟩,a7⟩
    · have Z:fs l i=0:=(by omega);have aC:Hid (ir l (n - a) a=ir l (n - (i+1)) (i+1)):=(by show _=_;rw [m.out,F.out,ae z]);rw [Z]at q;clear F m z X Z;go_wp2_with fail;refine(q.out).mono ?_;rintro e w1 ⟨rfl,rfl⟩;have A:=o;clear q R;go_wp2_with fail;go_roundw;case rel=>exact⟨i+1,by omega,by omega,by go_num,aC.out,A⟩
      case measure=>simp [intOf];omega
  · obtain rfl:i=n:=(by omega);have I:Hid (U=(0,a,1)):=(by show _=_;rw [O.out,m.out,HE.out]);have j1:¬((i:Int)<i):=(by omega);clear m;go_wp2_with fail;go_ret2;rw [I.out];exact⟨rfl,M.out.fr o.fr,o.fr.chg _⟩
end Go.Proofs.YtfpijnhhdfoohaaGreatDoor
