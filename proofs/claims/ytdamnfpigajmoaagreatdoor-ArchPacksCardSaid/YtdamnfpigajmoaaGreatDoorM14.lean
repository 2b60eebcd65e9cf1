/- Parts of the proof of ArchPacks: N2 V0 B1 B2 B3 E1 R1 C1. -/
import Derived.Test.YtdamnfpigajmoaaGreatDoorM09
import Derived.Test.YtdamnfpigajmoaaGreatDoorM13
import Derived.Test.YtdamnfpigajmoaaGreatDoorM11
import Derived.Test.YtdamnfpigajmoaaGreatDoorM04
import Derived.Test.YtdamnfpigajmoaaGreatDoorM01
set_option linter.unusedVariables false
set_option linter.unusedSectionVars false
set_option linter.unusedSimpArgs false
set_option maxHeartbeats 8000000
set_option maxRecDepth 100000
namespace Go.Fk
abbrev dm:=@List.append_nil
abbrev mQ:=@Go.IntKind.wrap_u64
abbrev vL:=@List.replicate_succ'
end Go.Fk
namespace Go.Proofs.YtdamnfpigajmoaaGreatDoor
open Go.RowKit Go.Fk
theorem ER:iN 256 (fun y=>(y ||| 128) == 128+y % 128)=true:=by decide +kernel
theorem EO(x:Nat):bits .or .u8 ((x:Int) % 256) 128=((UInt8.ofNat (128+x % 128)).toNat:Int):=by
 have h:(x % 256) ||| 128=128+(x % 256) % 128:=beq_iff_eq.1 (ka 256 _ ER (x % 256) (by omega));rw [show(x:Int) % 256=((x % 256:Nat):Int) by omega,show(128:Int)=((128:Nat):Int)from rfl,yx (x % 256) 128 (by omega) (by omega),h,jL];omega
theorem lN(x:Nat)(h:x<256):(#[Value.int .u8 (x:Int)]:Array Value).toList=eB.cells [UInt8.ofNat x]:=by
 have e:(x:Int)=((UInt8.ofNat x).toNat:Int):=by rw [jL];omega
 rw [e];rfl
theorem jK(x:Nat)(D:x<18446744073709551616)(w:World) :
  Calls Tryz.prog 31 #[.int .u64 (x:Int)] w fun e w'=>∃ v,e=.returned v/\Ow w' w.heap.size eB v (ao x)/\Fr w w':=by
 have F:=aG x D;generalize G:ao x=R at *;have K:=ad F;go_enter Tryz.func31, Tryz.ntmps31;go_wp2_with fail;go_loopw [0,3] (fun q L wr=>∃ (y:Nat) (o:List UInt8),q=.int .u64 (y:Int)/\y<18446744073709551616/\Ow wr w.heap.size eB L o/\Hid (R=o++ao y)/\Fr w wr) (fun q _ _=>(intOf q).toNat);case atStart=>exact⟨x,[],rfl,D,Ow.nil,by show _=_;rw [G];rfl,Fr.refl w⟩
 case round=>
  obtain⟨y,o,rfl,T,m,z,d⟩:=hrel;have U:o.length<=10:=(by have M:=K.out;rw [z.out,an]at M;omega);have I:o.length+1<=2147483648:=(by omega);clear F G;by_cases J:y<128;· have A:Hid (R=o++[UInt8.ofNat y]):=(by show _=_;rw [z.out,qR y J]);have O:=ad (lN y (by omega));have Q:¬(128:Int)<=y:=(by omega);generalize UInt8.ofNat y=c at *;go_wp2_with (at_builtin;refine aM eB rfl (.tmp 14) (.tmp 17) 29 rfl Tryz.underlying29 w.heap.size rfl m [c] _ _ _ O.out rfl rfl I d.size ?_);intro v' w4 h;go_wp2_with fail;go_ret;exact⟨_,rfl,by rw [A.out];exact h.own,h.below m d (ag _) d.size⟩
  · have A:Hid (R=o++[UInt8.ofNat (128+y % 128)]++ao (y / 128)):=(by show _=_;rw [z.out,tS y J];simp);have V:=EO y;have Q:(128:Int)<=y:=(by omega);generalize UInt8.ofNat (128+y % 128)=c at *;go_wp2_with (at_builtin;refine aM eB rfl (.tmp 6) (.tmp 10) 29 rfl Tryz.underlying29 w.heap.size rfl m [c] _ _ _ rfl rfl rfl I d.size ?_);intro v' w4 h;go_wp2_with fail;go_roundw;case rel=>exact⟨y / 128,o++[c],by go_num,by omega,h.own,A,h.below m d (ag _) d.size⟩
    case measure=>simp [intOf];omega
theorem Fw(x:Nat):(128:Int)+x % 128=((UInt8.ofNat (128+x % 128)).toNat:Int):=by
 rw [jL];omega
theorem jI(x:Nat)(F:x<18446744073709551616)(w:World) :
  Calls Tryz.prog 77 #[.int .u64 (x:Int)] w fun e w'=>∃ v,e=.returned v/\Ow w' w.heap.size eB v (ao x)/\Fr w w':=by
 have G:=aG x F;generalize I:ao x=R at *;have L:=ad G;go_enter Tryz.func77, Tryz.ntmps77;go_wp2_with fail;go_loopw [0,3] (fun q M wr=>∃ (y:Nat) (o:List UInt8),q=.int .u64 (y:Int)/\y<18446744073709551616/\Ow wr w.heap.size eB M o/\Hid (R=o++ao y)/\Fr w wr) (fun q _ _=>(intOf q).toNat);case atStart=>exact⟨x,[],rfl,F,Ow.nil,by show _=_;rw [I];rfl,Fr.refl w⟩
 case round=>
  obtain⟨y,o,rfl,T,m,z,d⟩:=hrel;have U:o.length<=10:=(by have O:=L.out;rw [z.out,an]at O;omega);have J:o.length+1<=2147483648:=(by omega);clear G I;by_cases K:y<128;· have A:Hid (R=o++[UInt8.ofNat y]):=(by show _=_;rw [z.out,qR y K]);have D:=ad (lN y (by omega));have Q:¬(128:Int)<=y:=(by omega);generalize UInt8.ofNat y=c at *;go_wp2_with (at_builtin;refine aM eB rfl (.tmp 15) (.tmp 18) 29 rfl Tryz.underlying29 w.heap.size rfl m [c] _ _ _ D.out rfl rfl J d.size ?_);intro v' w4 h;go_wp2_with fail;go_ret;exact⟨_,rfl,by rw [A.out];exact h.own,h.below m d (ag _) d.size⟩
  · have A:Hid (R=o++[UInt8.ofNat (128+y % 128)]++ao (y / 128)):=(by show _=_;rw [z.out,tS y K];simp);have D:Hid ((#[Value.int .u8 ((128:Int)+y % 128)]:Array Value).toList=eB.cells [UInt8.ofNat (128+y % 128)]):=(by show _=_;rw [Fw y];rfl);have Q:(128:Int)<=y:=(by omega);generalize UInt8.ofNat (128+y % 128)=c at *;go_wp2_with (at_builtin;refine aM eB rfl (.tmp 6) (.tmp 11) 29 rfl Tryz.underlying29 w.heap.size rfl m [c] _ _ _ D.out rfl rfl J d.size ?_);intro v' w4 h;go_wp2_with fail;go_roundw;case rel=>exact⟨y / 128,o++[c],by go_num,by omega,h.own,A,h.below m d (ag _) d.size⟩
    case measure=>simp [intOf];omega
theorem uX(s:List UInt8)(A:s.length<=1000000000)(w:World) :
  Calls Tryz.prog 98 #[S s] w fun e w'=>∃ v,e=.returned v/\Ow w' w.heap.size eB v (cZ s)/\Fr w w':=by
 have o:=ad (jK s.length (by omega));have q:=aG s.length (by omega);have y:(ao s.length).length+s.length<=2147483648:=by omega
 have z:Hid (cZ s=ao s.length++s):=rfl;generalize ao s.length=D at *;clear q;go_enter Tryz.func98, Tryz.ntmps98;go_wp2_with fail;refine(o.out _).mono ?_;rintro e F ⟨G,rfl,h,d⟩;go_wp2_with (at_builtin;refine ww eB rfl (.tmp 6) (.tmp 7) 29 9 rfl Tryz.underlying29 Tryz.underlying9 rfl rfl rfl w.heap.size rfl h s rfl y d.size ?_);intro v' w4 m;go_wp2_with fail;go_ret;exact⟨_,rfl,by rw [z.out];exact m.own,m.below h d (ag _) d.size⟩
theorem AO(s:List UInt8)(A:s.length<=1000000000)(w:World) :
  Calls Tryz.prog 172 #[S s] w fun e w'=>∃ v,e=.returned v/\Ow w' w.heap.size eB v (cZ s)/\Fr w w':=by
 have o:=ad (jI s.length (by omega));have q:=aG s.length (by omega);have y:(ao s.length).length+s.length<=2147483648:=by omega
 have z:Hid (cZ s=ao s.length++s):=rfl;generalize ao s.length=D at *;clear q;go_enter Tryz.func172, Tryz.ntmps172;go_wp2_with fail;refine(o.out _).mono ?_;rintro e F ⟨G,rfl,h,d⟩;go_wp2_with (at_builtin;refine ww eB rfl (.tmp 6) (.tmp 7) 29 9 rfl Tryz.underlying29 Tryz.underlying9 rfl rfl rfl w.heap.size rfl h s rfl y d.size ?_);intro v' w4 m;go_wp2_with fail;go_ret;exact⟨_,rfl,by rw [z.out];exact m.own,m.below h d (ag _) d.size⟩
theorem lm(v:Value)(h:List Hd)(d:List (List UInt8))(w:World)(m:bY w aP eB v h d)(o:d.flatten.length<=1000000) :
  Calls Tryz.prog 30 #[v] w fun e w'=>∃ v,e=.returned v/\Ow w' w.heap.size eB v d.flatten/\Fr w w':=by
 obtain⟨a,D,q,_⟩:=m.1.shape;have y:=ad (L3 v h d w m o);subst q;go_enter Tryz.func30, Tryz.ntmps30;go_wp2_with fail;refine y.out.mono ?_;rintro e F ⟨G,rfl,z,A⟩;go_wp2_with fail;go_ret;exact⟨_,rfl,z,A⟩
theorem Jt(d:Nat)(m:d<18446744073709551616)(w:World) :
  Calls Tryz.prog 129 #[.int .u64 (d:Int)] w fun e w'=>e=.returned (.int .u64 (eG d:Nat))/\w=w':=by
 have y:=ad m;by_cases h:d<9223372036854775808;· have o:Hid (eG d=2*d):=(by show _=_;unfold eG;rw [ai h]);have q:=ad h;have z:((9223372036854775808:Int)<=d)=False:=(by simp;omega);clear h m;go_enter Tryz.func129, Tryz.ntmps129;go_wp2_with fail;go_ret;refine⟨?_,rfl⟩;rw [o.out];have:=q.out;simp;rw [mQ];omega
 · have o:Hid (eG d=2*(18446744073709551615 - d)+1):=(by show _=_;unfold eG;rw [ah h]);have q:=ad h;have z:((9223372036854775808:Int)<=d)=True:=(by simp;omega);clear h m;go_enter Tryz.func129, Tryz.ntmps129;go_wp2_with fail;go_ret;refine⟨?_,rfl⟩;rw [o.out];have:=q.out;have:=y.out;simp;rw [mQ,mQ,mQ];omega
theorem Jb(d:Nat)(o:d<18446744073709551616)(w:World) :
  Calls Tryz.prog 103 #[.int .u64 (d:Int)] w fun e w'=>e=.returned (.int .u64 (eG d:Nat))/\w=w':=by
 have key:bits BinOp.xor IntKind.u64 (IntKind.u64.wrap ((d:Int)*2)) (IntKind.u64.wrap (-((d:Int) / 9223372036854775808)))=((eG d:Nat):Int):=by
  rw [mQ,mQ];by_cases h:d<9223372036854775808;· rw [show(d:Int) / 9223372036854775808=0 by omega,show(d:Int)*2 % 18446744073709551616=((2*d:Nat):Int) by omega,show(-(0:Int)) % 18446744073709551616=((0:Nat):Int) by omega,bits_xor_u64_nat _ _ (by omega) (by omega),pL];unfold eG;rw [ai h]
  · rw [show(d:Int) / 9223372036854775808=1 by omega,show(d:Int)*2 % 18446744073709551616=((2*d - 18446744073709551616:Nat):Int) by omega,show(-(1:Int)) % 18446744073709551616=((2 ^ 64 - 1:Nat):Int) by omega,bits_xor_u64_nat _ _ (by omega) (by omega),wk 64 _ (by omega)];unfold eG;rw [ah h];omega
 have m:=ad key;clear key;go_enter Tryz.func103, Tryz.ntmps103;go_wp2_with fail;go_ret;refine⟨?_,rfl⟩;rw [<- m.out];rfl
theorem rP(x n:Nat)(Z:1<=n)(aa:n<=8)(F:x<256 ^ n)(L:x<18446744073709551616)(w:World) :
  Calls Tryz.prog 128 #[.int .u64 (x:Int),N n] w fun e w'=>∃ v,e=.returned (.tuple #[v,.int .i64 0])/\Ow w' w.heap.size eB v (bl n x)/\Fr w w':=by
 have h1:¬(n:Int)<1:=by omega
 have h2:¬(8:Int)<n:=by omega
 generalize m:bl n x=R;have HL:Hid (R.length=n):=by show _=_;rw [<- m,jk]
 have M:=ad F;clear F;go_enter Tryz.func128, Tryz.ntmps128;go_wp2_with fail;go_loopw [0,6,7] (fun O Q q wr=>∃ (i y:Nat) (o:List UInt8),i<=n/\q=N i/\O=.int .u64 (y:Int)/\y<18446744073709551616/\Hid (y<256 ^ (n - i))/\Ow wr w.heap.size eB Q o/\o.length=i/\Hid (R=o++bl (n - i) y)/\Fr w wr) (fun _ _ q _=>n - (intOf q).toNat);case atStart=>exact⟨0,x,[],ap _,rfl,rfl,L,M.out,Ow.nil,rfl,by show _=_;rw [<- m];rfl,Fr.refl w⟩
 case round=>
  obtain⟨i,y,o,hi,rfl,rfl,hy,G,d,I,J,h⟩:=hrel;clear m;by_cases a1:i<n
  · have a2:(i:Int)<n:=(by omega);have z:n - i=(n - (i+1))+1:=(by omega);have D:Hid (R=o++[UInt8.ofNat (y % 256)]++bl (n - (i+1)) (y / 256)):=(by show _=_;rw [J.out,z,bl];simp);have T:Hid (y / 256<256 ^ (n - (i+1))):=(by have:=G.out;rw [z,eA]at this;exact Nat.div_lt_of_lt_mul (by rw [fK];exact this));have U:Hid ((#[Value.int .u8 ((y:Int) % 256)]:Array Value).toList=eB.cells [UInt8.ofNat (y % 256)]):=(by show _=_;have:=lN (y % 256) (by omega);rw [show((y % 256:Nat):Int)=(y:Int) % 256 by omega]at this;exact this);have V:o.length+1<=2147483648:=(by omega);clear z;generalize UInt8.ofNat (y % 256)=c at *;go_wp2_with (at_builtin;refine aM eB rfl (.tmp 19) (.tmp 23) 29 rfl Tryz.underlying29 w.heap.size rfl d [c] _ _ _ U.out rfl rfl V h.size ?_);intro v' w4 K;go_wp2_with fail;go_roundw;case rel=>exact⟨i+1,y / 256,o++[c],by omega,by go_num,by go_num,by omega,T,K.own,by rw [an,I];rfl,D,K.below d h (ag _) h.size⟩
    case measure=>simp [intOf];omega
  · obtain rfl:i=n:=(by omega);have X:y=0:=(by have:=G.out;rw [e8]at this;omega);subst X;have D:Hid (R=o):=(by show _=_;rw [J.out,e8,bl,dm]);obtain⟨a,c,rfl⟩:=d.shape';have Y:¬((o.length:Int)<o.length):=(by omega);rw [I]at d ⊢;have Y:¬((i:Int)<i):=(by omega);go_wp2_with fail;exact b6Qb (v:=.tuple #[.slice a i c,.int .i64 0]) (by simp [results,Tryz.results128,go_sem, *]) rfl ⟨_,rfl,by rw [D.out];exact d,h⟩
theorem xE(x i:Nat):((x:Int) / 2 ^ (8*i))=((x / 256 ^ i:Nat):Int):=by
 rw [show(256:Nat) ^ i=2 ^ (8*i) by rw [Nat.pow_mul]];simp
theorem rR(x n:Nat)(hn:1<=n)(ac:n<=7)(G:x<256 ^ n)(aj:x<18446744073709551616)(w:World) :
  Calls Tryz.prog 66 #[.int .u64 (x:Int),N n] w fun e w'=>∃ v,e=.returned (.tuple #[v,.int .i64 0])/\Ow w' w.heap.size eB v (bl n x)/\Fr w w':=by
 have O:¬(n:Int)<1:=by omega
 have y:¬(8:Int)<n:=by omega
 have Q:(n:Int)<8:=by omega
 have T:(x:Int) / 2 ^ (8*n)=0:=by rw [xE,lq G];rfl
 have U:=mw eB rfl rfl 29 Tryz.underlying29 .i64 .i64 n (by omega);have I:∀ W:World,Ow (W.alloc (.cells (madeCells #[eB.z] n) eB.e)) W.heap.size eB (.slice (some ⟨W.heap.size,0,none⟩) n n) (List.replicate n 0):=fun W=>my eB rfl rfl n (by omega) W (ag _);generalize z:bl n x=R;have d:Hid (R.length=n):=by show _=_;rw [<- z,jk]
 have V:Hid (∀ i (h:i<n) (y:i<R.length),R[i]=UInt8.ofNat (x / 256 ^ i % 256)):=by intro i h y;subst z;exact GD n x i h
 have X:=ad I;clear G z I;go_enter Tryz.func66, Tryz.ntmps66;go_wp2_with fail;have J:=X.out w;have K:Fr w (w.alloc (.cells (madeCells #[eB.z] n) eB.e)):=(Fr.refl w).alloc _;generalize w.alloc (.cells (madeCells #[eB.z] n) eB.e)=w0 at *;generalize D:w.heap.size=g at *;clear O y Q T U;go_loopw [29] (fun F wr=>∃ i:Nat,i<=n/\F=N i/\Ow wr g eB (.slice (some ⟨g,0,none⟩) n n) (R.take i++List.replicate (n - i) 0)/\Below g w wr) (fun F _=>n - (intOf F).toNat);case atStart=>exact⟨0,ap _,rfl,J,by rw [<- D];exact K⟩
 case round=>
  obtain⟨i,Y,rfl,m,o⟩:=hrel;clear J K;by_cases q:i<n
  · have a0:(i:Int)<n:=(by omega);have a1:(0:Int)<=i:=(by omega);have L:(R.take i++List.replicate (n - i) (0:UInt8)).length=n:=rq R 0 n i d.out Y;obtain⟨c0,c1⟩:=m.cellAt Fk.u8 rfl i (by rw [L];exact q);have Z:Hid ((R.take i++List.replicate (n - i) (0:UInt8)).set i (UInt8.ofNat (x / 256 ^ i % 256))=R.take (i+1)++List.replicate (n - (i+1)) 0):=(by exact rp R 0 n i d.out q _ (V.out i q (by have:=d.out;omega)));have M:=m.set Fk.u8 rfl i (by rw [L];exact q) (UInt8.ofNat (x / 256 ^ i % 256)) (.int .u8 ((x / 256 ^ i % 256:Nat):Int)) (by show Value.int .u8 _=_;rw [jL];congr 1;omega);rw [Z.out]at M;have a4:((x:Int) / 2 ^ (8*i)) % 256=((x / 256 ^ i % 256:Nat):Int):=(by rw [xE];omega);have aa:=db o (ag g) (by rw [<- D];exact(Below.size o)) (i:=i) (u:=.int .u8 ((x / 256 ^ i % 256:Nat):Int));go_wp2_with fail;go_roundw;case rel=>exact⟨i+1,by omega,by go_num,M,aa⟩
    case measure=>simp [intOf];omega
  · obtain rfl:i=n:=(by omega);have a5:¬((i:Int)<i):=(by omega);rw [e8,List.replicate_zero,dm,eo (by have:=d.out;omega)]at m;go_wp2_with fail;exact b6Qb (v:=.tuple #[.slice (some ⟨g,0,none⟩) i i,.int .i64 0]) (by simp [results,Tryz.results66,go_sem, *]) rfl ⟨_,rfl,m,by rw [<- D]at o;exact o⟩
theorem Im(d:List Hd):aP.cells d=d.map Hd.v:=by
 induction d with
 | nil=>rfl
 | cons p d e=>show [p.v]++aP.cells d=_;rw [e];rfl
theorem kw{w:World}{v:Value}{l:List UInt8}(h:af w eB v l):∃ p:Hd,v=p.v:=by
 obtain⟨a,d,e,_⟩:=h.shape;exact⟨⟨a,_,d⟩,e⟩
theorem nE(w:World)(m:Array Value)(T:TypeId)(d:List Hd)(e:List (List UInt8))(n:Nat)(y:n=d.length)(z:m.toList=d.map Hd.v)(A:d.length=e.length)(D:d.length<=1000000)(h:∀ i (o:i<d.length) (q:i<e.length),af w eB d[i].v e[i]) :
  bY (w.alloc (.cells m T)) aP eB (.slice (some ⟨w.heap.size,0,none⟩) n n) d e:=
 ⟨iY aP w d m T n y (by rw [z,Im]) (by unfold maxLen;omega),A,fun i o q=>(h i o q).fr ((Fr.refl w).alloc _)⟩
theorem uQ(h m:Value)(d lb:List UInt8)(W:World)(o:af W eB h d)(q:af W eB m lb)(I:d.length+lb.length<=1000000) :
  Calls Tryz.prog 30 #[.slice (some ⟨W.heap.size,0,none⟩) 2 2] (W.alloc (.cells #[h,m] 29)) fun e w'=>∃ v,e=.returned v/\Ow w' W.heap.size eB v (d++lb)/\Fr W w':=by
 obtain⟨y,rfl⟩:=kw o;obtain⟨z,rfl⟩:=kw q;have A := nE W #[y.v, z.v] 29 [y, z] [d, lb] 2 rfl rfl rfl (by simp) (fun i D A => by
  match i, D with
  | 0, _ => exact o
  | 1, _ => exact q)
 refine(lm _ _ _ _ A (by simp;omega)).mono ?_;rintro e w' ⟨v,rfl,F,G⟩;exact⟨v,rfl,by simpa using F.rebase (b:=W.heap.size) (by simp),((Fr.refl W).alloc _).trans G⟩
theorem uO(m o q:Value)(d lb h:List UInt8)(W:World)(y:af W eB m d)(z:af W eB o lb)(A:af W eB q h)(M:d.length+lb.length+h.length<=1000000) :
  Calls Tryz.prog 30 #[.slice (some ⟨W.heap.size,0,none⟩) 3 3] (W.alloc (.cells #[m,o,q] 29)) fun e w'=>∃ v,e=.returned v/\Ow w' W.heap.size eB v (d++lb++h)/\Fr W w':=by
 obtain⟨D,rfl⟩:=kw y;obtain⟨F,rfl⟩:=kw z;obtain⟨G,rfl⟩:=kw A;have I := nE W #[D.v, F.v, G.v] 29 [D, F, G] [d, lb, h] 3 rfl rfl rfl (by simp) (fun i J I => by
  match i, J with
  | 0, _ => exact y
  | 1, _ => exact z
  | 2, _ => exact A)
 refine(lm _ _ _ _ I (by simp;omega)).mono ?_;rintro e w' ⟨v,rfl,K,L⟩;exact⟨v,rfl,by simpa using K.rebase (b:=W.heap.size) (by simp),((Fr.refl W).alloc _).trans L⟩
def bK(w:World)(base g:Nat)(T:TypeId)(rest:List Value)(d:Value)(l:List UInt8):Prop:=
 w.heap[g]? = some (.cells (d::N l.length::rest).toArray T (0,0))/\Ow w base eB d (bM l)/\g<base/\kE l
def aA(g:Nat)(d e:Value)(w w':World):Prop:=ak (fun k=>k=g\/d.ownBlock=some k) w w'/\∀ b,e.ownBlock=some b->d.ownBlock=some b\/w.heap.size<=b
theorem aA.refl(g:Nat)(d:Value)(w:World):aA g d d w w:=⟨ak.refl _ w,fun _ h=>.inl h⟩
theorem aA.trans{g:Nat}{a b c:Value}{w d m:World}(h:aA g a b w d)(k:aA g b c d m):aA g a c w m:=
 ⟨h.1.trans k.1 (fun i o y => by
  rcases y with e | e
  · exact .inl e
  · rcases h.2 i e with q | q
    · exact .inr q
    · omega), fun i o => by
  rcases k.2 i o with e | e
  · exact h.2 i e
  · exact .inr (aq h.1.size e)⟩
theorem aA.fr{g:Nat}{a b:Value}{w d m:World}(o:Fr w d)(h:aA g a b d m):aA g a b w m:=
 ⟨(o.chg _).trans h.1 (fun _ _ h=>h),fun i q=>(h.2 i q).imp id fun e=>aq o.size e⟩
theorem aA.frR{g:Nat}{a b:Value}{w d e:World}(h:aA g a b w d)(m:Fr d e):aA g a b w e:=
 ⟨h.1.trans (m.chg (fun k=>k=g\/a.ownBlock=some k)) (fun _ _ h=>h),h.2⟩
theorem aA.heap{g:Nat}{a b:Value}{w w':World}(h:aA g a b w w'){k:Nat}{o:Obj}(d:w.heap[k]? = some o)(m:k≠g)(q:a.ownBlock≠some k):w'.heap[k]? = some o:=
 h.1.heap d (fun e=>e.elim m q)
theorem IH(x:UInt8)(A:x=0\/x=1)(base g:Nat)(T:TypeId)(rest:List Value)(D:Value)(l:List UInt8)(w:World)(h:bK w base g T rest D l)(hl:l.length<=1000000000)(F:base<=w.heap.size) :
  Calls Tryz.prog 224 #[.pointer (some ⟨g,0,none⟩),.int .u64 x.toNat] w fun e w'=>e=.returned (.tuple #[])/\∃ av,bK w' base g T rest av (l++[x])/\aA g D av w w':=by
 obtain⟨d,G,X,Y⟩:=h;have e0:=ae d 0 rfl;have e1:=ae d 1 rfl;have z0:=az d 0;have z1:=az d 1;have I:=jb l;have Z:=EJ l x Y A;obtain⟨m,o⟩:∃ m,m=(if l.length % 8=0 then bM l++[0]else bM l):=⟨_,rfl⟩;have M:l.length / 8<m.length:=by
  rw [o];split;· rw [an,I];simp;omega
  · rw [I];omega
 have a2:m[l.length / 8]=UInt8.ofNat (eP l (l.length / 8)):=by
  by_cases J:l.length % 8=0;· simp only [o,ai J];rw [gu (by rw [I];omega)];rw [Iv l _ (by omega)];simp
  · simp only [o,ah J];exact yu l _ _
 rw [<- o]at Z;have bk:=ad Z;have HM:=ad o;have bm:=ad a2;have bn:=ad I;clear Z o a2 I;have bA:(0:Int)<=l.length:=by omega
 have bB:m.length<=(bM l).length+1:=by rw [HM.out];split <;> simp
 obtain⟨bR,ca,bt⟩:=G.shape';go_enter Tryz.func224, Tryz.ntmps224;go_upto_if 9 with fail;go_cut []from 8 to 18 (fun wx=>∃ O,wx.heap[g]? = some (.cells (O::N l.length::rest).toArray T (0,0))/\Ow wx base eB O m/\aA g D O w wx)
 case first=>
  by_cases J:l.length % 8=0
  · have bu:(l.length:Int) % 8=0:=(by omega);have bx:(bM l).length+1<=2147483648:=(by rw [bn.out];omega);have ac:Hid (m=bM l++[0]):=(by show _=_;rw [HM.out,ai J]);subst bt;go_wp2_with (at_builtin;refine aM eB rfl (.tmp 14) (.tmp 15) 29 rfl Tryz.underlying29 base rfl G [0] _ _ _ rfl rfl rfl bx F ?_);intro v' w4 K;have aj:=K.chg'.heap d (fun e=>by have:=(G.lt _ e).1;omega);have c0:=ae aj 0 rfl;have c1:=az aj 0;obtain⟨va,vc,hv⟩:=K.own.shape';rw [show(bM l++[(0:UInt8)]).length=(bM l).length+1 from by simp]at hv;subst hv;go_wp2_with fail;go_meet;refine⟨_,aB aj 0 _,?_,⟨?_,?_⟩⟩;· rw [ac.out];exact et K.own X
    · exact(K.chg'.mono (fun k _ h=>Or.inr h)).trans (aw w4 ⟨g,0,none⟩ _) (fun k _ h=>Or.inl h)
    · exact K.fresh
  · have bu:¬(l.length:Int) % 8=0:=(by omega);have ac:Hid (m=bM l):=(by show _=_;rw [HM.out,ah J]);go_wp2_with fail;go_meet;exact⟨_,d,by rw [ac.out];exact G,aA.refl g D w⟩
 case rest=>
  obtain⟨O,Q,R,a4⟩:=hcut;clear d G e0 e1 z0 z1;have bz:m≠[]:=(by intro e;rw [e]at M;simp at M);obtain⟨q,L,rfl,cj,cl,cm,cn⟩:=R.atHead bz;obtain⟨c2,c3⟩:=R.cellAt (fun c=>Fk.u8 c) rfl (l.length / 8) M;have a5:=fun u x A=>R.set (fun c=>Fk.u8 c) rfl (l.length / 8) M x u A;rw [bm.out]at c2;have a6:=uD Y (l.length / 8);generalize eP l (l.length / 8)=y at *;have e0:=ae Q 0 rfl;have e1:=ae Q 1 rfl;have i1:(l.length:Int) / 8<m.length:=(by omega);have i2:(0:Int)<=(l.length:Int) / 8:=(by omega);have i3:((l.length:Int) / 8).toNat=l.length / 8:=(by omega);have i4:(0:Int)<=7 - (l.length:Int) % 8:=(by omega);have i5:(7 - (l.length:Int) % 8).toNat=7 - l.length % 8:=(by omega);have cy:=kH x;have j1:IntKind.i64.wrap ((l.length:Int) / 8)=(l.length:Int) / 8:=ar _ (by omega);have j2:(l.length:Int).tmod 8=(l.length:Int) % 8:=Int.tmod_eq_emod_of_nonneg (by omega);have c5:IntKind.i64.wrap ((l.length:Int) % 8)=(l.length:Int) % 8:=ar _ (by omega);have j3:IntKind.i64.wrap (7 - (l.length:Int) % 8)=7 - (l.length:Int) % 8:=ar _ (by omega);have j4:IntKind.u8.wrap (x.toNat:Int)=x.toNat:=(by rw [km];omega);have a7:x.toNat*2 ^ (7 - l.length % 8)<256:=by
   have h1:x.toNat<=1:=(by rcases A with rfl | rfl <;> decide);have U:2 ^ (7 - l.length % 8)<=2 ^ 7:=eC (by omega) (by omega)
   calc x.toNat * 2 ^ (7 - l.length % 8) ≤ 1 * 2 ^ 7 := b7 h1 U
    _<256:=by decide
  have k1:IntKind.u8.wrap ((x.toNat:Int)*2 ^ (7 - l.length % 8))=((x.toNat*2 ^ (7 - l.length % 8):Nat):Int):=(by rw [km];have e:((x.toNat*2 ^ (7 - l.length % 8):Nat):Int)=(x.toNat:Int)*2 ^ (7 - l.length % 8):=(by simp);rw [<- e];omega);have b1:y ||| x.toNat*2 ^ (7 - l.length % 8)<256:=Nat.or_lt_two_pow (n:=8) a6 a7;generalize x.toNat*2 ^ (7 - l.length % 8)=S at *;have k2:bits .or .u8 ((y:Int) % 256) (S:Int)=((y ||| S:Nat):Int):=(by rw [show(y:Int) % 256=y by omega];exact yx y S a6 a7);have ba:=a5 (.int .u8 ((y ||| S:Nat):Int)) (UInt8.ofNat (y ||| S)) (mB _ b1).symm;clear a5;generalize y ||| S=z at *;have b2:q≠g:=(by omega);have V:(wc.setCell ⟨q,l.length / 8,none⟩ (.int .u8 (z:Int))).heap[g]? = some (.cells (.slice (some ⟨q,0,none⟩) m.length L::N l.length::rest).toArray T (0,0)):=by rw [md _ _ _ _ (by simpa using fun e=>b2 e.symm)];exact Q
  have bb:aA g D (.slice (some ⟨q,0,none⟩) m.length L) w (wc.setCell ⟨q,l.length / 8,none⟩ (.int .u8 (z:Int))):=
   a4.trans ⟨(aw wc _ _).mono (fun k _ h=>Or.inr (by rw [h];rfl)),fun b F=>Or.inl F⟩
  have d1:(wc.setCell ⟨q,l.length / 8,none⟩ (.int .u8 (z:Int))).cell? ⟨g,1,none⟩=some (N l.length):=(by rw [aL V];rfl);have d2:=az V 1;have b3:=ad bb;have b4:=ad ba;have b5:=ad V;clear bb ba V a4 R Q;go_upto_region 2 with fail;go_still_tail 22,(by kernel_rfl);change wpList _ _ _ _ _ wc.drew;go_wp2_with fail;go_end0;refine⟨rfl,.slice (some ⟨q,0,none⟩) m.length L,⟨?_,?_,X,Y.app (by intro c hc;rw [lu]at hc;rw [hc];exact A)⟩,?_⟩;· have U:=aB b5.out 1 (.int .i64 ((l.length:Int)+1));rw [List.setIfInBounds_toArray]at U;have e:(N (l++[x]).length:Value)=.int .i64 ((l.length:Int)+1):=(by rw [an];rfl);rw [e];exact U
  · rw [bk.out];exact(et b4.out X).drew
  · exact(b3.out.trans (b:=.slice (some ⟨q,0,none⟩) m.length L) (c:=.slice (some ⟨q,0,none⟩) m.length L) ⟨(aw _ _ _).mono (fun k _ h=>Or.inl h),fun b F=>Or.inl F⟩).frR (Fr.drew (Fr.refl _))
theorem A9(y:Nat)(h:y<18446744073709551616):bits .and .u64 (y:Int) 1=((y % 2:Nat):Int):=by
 show IntKind.u64.wrap ((BitVec.ofInt 64 (y:Int) &&& BitVec.ofInt 64 ((1:Nat):Int)).toNat:Int)=_;rw [se,fC 64 y (by omega),fC 64 1 (by omega),Nat.and_one_is_mod];simp only [IntKind.wrap,IntKind.bits,IntKind.signed];simp;omega
theorem uI(b:Nat)(y:b<=1)(base g:Nat)(T:TypeId)(rest:List Value)(d:Value)(l:List UInt8)(w:World)(h:bK w base g T rest d l)(o:l.length<=1000000000)(q:base<=w.heap.size) :
  Calls Tryz.prog 224 #[.pointer (some ⟨g,0,none⟩),.int .u64 (b:Int)] w fun e w'=>e=.returned (.tuple #[])/\∃ m,bK w' base g T rest m (l++[UInt8.ofNat b])/\aA g d m w w':=by
 have e:((UInt8.ofNat b).toNat:Int)=(b:Int):=by rw [jL];omega
 rw [<- e];refine IH (UInt8.ofNat b) ?_ base g T rest d l w h o q;have:b=0\/b=1:=by omega
 rcases this with rfl | rfl <;> simp
theorem bK.drew{w:World}{base g:Nat}{T:TypeId}{rest:List Value}{d:Value}{l:List UInt8}(h:bK w base g T rest d l):bK w.drew base g T rest d l:=⟨h.1,h.2.1.drew,h.2.2⟩
theorem Dx(x n:Nat)(h:x<2 ^ n):(x:Int) / 2 ^ n=0:=by
 have e:(x:Int) / 2 ^ n=((x / 2 ^ n:Nat):Int):=by simp
 rw [e,lq h];rfl
theorem rI(x n:Nat)(Q:n<=64)(q:x<2 ^ n)(base g:Nat)(T:TypeId)(rest:List Value)(o:Value)(l:List UInt8)(w:World)(h:bK w base g T rest o l)(hl:l.length+n<=1000000000)(R:base<=w.heap.size) :
  Calls Tryz.prog 158 #[.pointer (some ⟨g,0,none⟩),.int .u64 (x:Int),N n] w fun e w'=>e=.returned (.int .i64 0)/\∃ d,bK w' base g T rest d (l++aW x n)/\aA g o d w w':=by
 have U:x<18446744073709551616:=by
  calc x < 2 ^ n := q
   _<=2 ^ 64:=eC (by omega) Q
 have V:=Dx x n q;have X:=ad (fun b G W m d (Y:bK W base g T rest d m) (Z:m.length<=1000000000) (h3:base<=W.heap.size)=>uI b G base g T rest d m W Y Z h3);have a6:(0:Int)<=n:=by omega
 have a7:(n:Int)<=64:=by omega
 have ba:IntKind.i64.wrap ((n:Int) - 1)=(n:Int) - 1:=ar _ (by omega);have d1:decide ((n:Int)<0)=false:=by simp
 have d2:decide ((64:Int)<n)=false:=by simp;omega
 have hc:decide ((n:Int)<64)=true\/decide ((n:Int)<64)=false:=by cases decide ((n:Int)<64) <;> simp
 rcases hc with d3 | d3
 all_goals
  go_enter Tryz.func158, Tryz.ntmps158;go_wp2_with fail;go_loopw [7] (fun z wr=>∃ (j:Nat) (d:Value) (m:List UInt8),j<=n/\z=.int .i64 ((j:Int) - 1)/\bK wr base g T rest d m/\aA g o d w wr/\m.length<=1000000000 - j/\Hid (l++aW x n=m++aW x j)) (fun z _=>(intOf z+1).toNat);case atStart=>exact⟨n,o,l,ag _,rfl,h,aA.refl g o w,by omega,rfl⟩
  case round=>
   clear h;obtain⟨j,d,m,hj,rfl,I,A,bf,D⟩:=hrel;rcases lU j with rfl | hp;· have F:Hid (l++aW x n=m):=(by show _=_;rw [D.out,aW,dm]);go_wp2_with fail;go_ret;exact⟨rfl,d,by rw [F.out];exact I,A⟩
   · obtain⟨i,rfl⟩:∃ i,j=i+1:=⟨j - 1,by omega⟩;have J:((i+1:Nat):Int) - 1=(i:Int):=(by omega);rw [J];have bm:IntKind.i64.wrap ((i:Int) - 1)=(i:Int) - 1:=ar _ (by omega);have bn:(0:Int)<=i:=(by omega);have K:x / 2 ^ i<18446744073709551616:=og (jO _ _) U;have aj:=ad (A9 (x / 2 ^ i) K);have L:(x:Int) / 2 ^ i=((x / 2 ^ i:Nat):Int):=(by simp);have av:x / 2 ^ i % 2<=1:=(by omega);have F:Hid (l++aW x n=(m++[UInt8.ofNat (x / 2 ^ i % 2)])++aW x i):=(by show _=_;rw [D.out,aW];simp);have HC:=ad (X.out (x / 2 ^ i % 2) av wr.drew m d I.drew (by omega) (aq R A.1.size));clear J D;generalize x / 2 ^ i=y at *;have HY:=ad L;clear L V q;have G:bits .and .u64 ((x:Int) / 2 ^ i) 1=((y % 2:Nat):Int):=(by rw [HY.out];exact aj.out);clear K;generalize y % 2=b at *;go_upto_region 6 with fail;go_still_tail 7,(by kernel_rfl);change wpList _ _ _ _ _ wr.drew;generalize M:wr.drew=WD at *;have a2:=ad M;clear M;go_wp2_with fail;refine HC.out.mono ?_;rintro e w1 ⟨rfl,a3,a4,O⟩;go_wp2_with fail;go_roundw;case rel=>exact⟨i,a3,_,by omega,rfl,a4,by rw [<- a2.out]at O;exact(A.frR (Fr.drew (Fr.refl wr))).trans O,by rw [an];simp;omega,F⟩
     case measure=>simp [intOf]
theorem A6(base g:Nat)(T:TypeId)(rest:List Value)(d:Value)(l:List UInt8)(w:World)(h:bK w base g T rest d l)(A:l.length<=7999992) :
  Calls Tryz.prog 149 #[.pointer (some ⟨g,0,none⟩)] w fun e w'=>∃ v,e=.returned v/\Ow w' w.heap.size eB v (bM l)/\Fr w w':=by
 obtain⟨o,m,D,F⟩:=h;have G:=ae o 0 rfl;have q:=ad (mH d (bM l) w m.see (by rw [jb];omega));obtain⟨I,J,rfl⟩:=m.shape';go_enter Tryz.func149, Tryz.ntmps149;go_wp2_with fail;refine q.out.mono ?_;rintro e K ⟨L,rfl,y,z⟩;go_wp2_with fail;go_ret;exact⟨_,rfl,y,z⟩
theorem I0(n:Nat)(V:n<=100000)(base g:Nat)(T:TypeId)(rest:List Value)(o:Value)(l:List UInt8)(w:World)(h:bK w base g T rest o l)(X:l.length+n+1<=1000000000)(O:base<=w.heap.size) :
  Calls Tryz.prog 159 #[.pointer (some ⟨g,0,none⟩),N n] w fun e w'=>e=.returned (.int .i64 0)/\∃ d,bK w' base g T rest d (l++gK n)/\aA g o d w w':=by
 have Q:=ad (fun W m d (q:bK W base g T rest d m) (y:m.length<=1000000000) (z:base<=W.heap.size)=>uI 0 (by omega) base g T rest d m W q y z);have R:=ad (fun W m d (q:bK W base g T rest d m) (y:m.length<=1000000000) (z:base<=W.heap.size)=>uI 1 (by omega) base g T rest d m W q y z);have Y:decide ((n:Int)<0)=false:=by simp
 have Z:decide ((100000:Int)<n)=false:=by simp;omega
 have d3:¬(100000:Int)<n:=by omega
 go_enter Tryz.func159, Tryz.ntmps159;go_wp2_with fail;go_loopw [16] (fun A wr=>∃ (i:Nat) (d:Value),i<=n/\A=N i/\bK wr base g T rest d (l++List.replicate i 0)/\aA g o d w wr) (fun A _=>n - (intOf A).toNat);case atStart=>exact⟨0,o,ap _,rfl,by simpa using h,aA.refl g o w⟩
 case round=>
  clear h;obtain⟨i,d,hi,rfl,K,D⟩:=hrel;have L:base<=wr.heap.size:=aq O D.1.size;have M:(l++List.replicate i (0:UInt8)).length<=1000000000:=(by simp;omega);by_cases ac:i<n
  · have aj:(i:Int)<n:=(by omega);have F:Hid (l++List.replicate (i+1) (0:UInt8)=(l++List.replicate i 0)++[UInt8.ofNat 0]):=(by show _=_;rw [vL,eE];rfl);generalize l++List.replicate i (0:UInt8)=m at *;go_wp2_with fail;refine(Q.out wr m d K M L).mono ?_;rintro e U ⟨rfl,G,I,J⟩;go_wp2_with fail;go_roundw;case rel=>exact⟨i+1,G,by omega,by go_num,by rw [F.out];exact I,D.trans J⟩
    case measure=>simp [intOf];omega
  · obtain rfl:i=n:=(by omega);have av:¬((i:Int)<i):=(by omega);have F:Hid (l++gK i=(l++List.replicate i 0)++[UInt8.ofNat 1]):=(by show _=_;unfold gK;rw [eE];rfl);generalize l++List.replicate i (0:UInt8)=m at *;go_wp2_with fail;refine(R.out wr m d K M L).mono ?_;rintro e U ⟨rfl,G,I,J⟩;go_wp2_with fail;go_ret;exact⟨rfl,G,by rw [F.out];exact I,D.trans J⟩
def cP(w:World)(base g:Nat)(T:TypeId)(d:Value)(l:List UInt8):Prop:=w.heap[g]? = some (.cells #[d] T (0,0))/\Ow w base eB d l/\g<base/\kE l
theorem cP.drew{w:World}{base g:Nat}{T:TypeId}{d:Value}{l:List UInt8}(h:cP w base g T d l):cP w.drew base g T d l:=⟨h.1,h.2.1.drew,h.2.2⟩
def je(x k:Nat):List UInt8:=(List.range k).map fun i=>UInt8.ofNat (x / 2 ^ i % 2)
theorem FF(x k:Nat):je x (k+1)=je x k++[UInt8.ofNat (x / 2 ^ k % 2)]:=by simp [je,jt]
theorem qU(x k:Nat):(je x k).length=k:=by simp [je]
theorem FG(x k i:Nat)(h:i<(je x k).length):(je x k)[i]=UInt8.ofNat (x / 2 ^ i % 2):=by simp [je]
theorem sq{w w4:World}{base g:Nat}{T:TypeId}{m v':Value}{l:List UInt8}{c:UInt8}(h:cP w base g T m l)(d:cQ base eB (l++[c]) w m v' w4)(y:c=0\/c=1) :
  cP (w4.setCell ⟨g,0,none⟩ v') base g T v' (l++[c])/\aA g m v' w (w4.setCell ⟨g,0,none⟩ v'):=by
 obtain⟨z,A,o,D⟩:=h;have F:=d.chg'.heap z (fun e=>by have:=(A.lt _ e).1;omega);refine⟨⟨?_,et d.own o,o,D.app (by intro x q;rw [lu]at q;rw [q];exact y)⟩,?_,d.fresh⟩;· have:=aB F 0 v';simpa using this
 · exact(d.chg'.mono (fun k _ h=>Or.inr h)).trans (aw w4 ⟨g,0,none⟩ _) (fun k _ h=>Or.inl h)
theorem pG(x n:Nat)(hn:n<=64)(R:x<2 ^ n)(base g:Nat)(T:TypeId)(q:Value)(l:List UInt8)(w:World)(h:cP w base g T q l)(hl:l.length+n<=1000000000)(hs:base<=w.heap.size) :
  Calls Tryz.prog 179 #[.pointer (some ⟨g,0,none⟩),.int .u64 (x:Int),N n] w fun e w'=>e=.returned (.int .i64 0)/\∃ o,cP w' base g T o (l++aW x n)/\aA g q o w w':=by
 have a1:x<18446744073709551616:=by
  calc x < 2 ^ n := R
   _<=2 ^ 64:=eC (by omega) hn
 have d1:decide ((n:Int)<0)=false:=by simp
 have d2:¬(64:Int)<n:=by omega
 have d3:¬(n:Int)<0:=by omega
 have HDiv:Hid (x / 2 ^ n=0):=lq R;have b8:IntKind.i64.wrap ((n:Int) - 1)=(n:Int) - 1:=ar _ (by omega);have a2:g<w.heap.size:=by have:=h.2.2.1;omega
 go_enter Tryz.func179, Tryz.ntmps179;go_wp2_with fail;go_loopw [1,7,8] (fun xv lv A wr=>∃ (k y:Nat),k<=n/\A=N k/\xv=.int .u64 (y:Int)/\y<18446744073709551616/\Hid (y=x / 2 ^ k)/\Ow wr w.heap.size eB lv (je x k)/\Fr w wr) (fun _ _ A _=>n - (intOf A).toNat);case atStart=>exact⟨0,x,ap _,rfl,rfl,a1,by show _=_;simp,Ow.nil,Fr.refl w⟩
 case round=>
  obtain⟨k,y,hk,rfl,rfl,hy,I,d,D⟩:=hrel;by_cases bR:k<n
  · have ca:(k:Int)<n:=(by omega);have y1:(0:Int)<=y:=(by omega);have y2:(y:Int)<18446744073709551616:=(by omega);have HB:Hid ((#[Value.int .u8 ((y:Int) % 2)]:Array Value).toList=eB.cells [UInt8.ofNat (y % 2)]):=(by show _=_;have:=lN (y % 2) (by omega);rw [show((y % 2:Nat):Int)=(y:Int) % 2 by omega]at this;exact this);have a6:IntKind.u8.wrap ((y:Int) % 2)=(y:Int) % 2:=(by rw [km];omega);have HL:Hid (je x (k+1)=je x k++[UInt8.ofNat (y % 2)]):=(by show _=_;rw [FF,I.out]);have ba:Hid (y / 2=x / 2 ^ (k+1)):=(by show _=_;rw [I.out,oi,eA]);have bb:(je x k).length+1<=2147483648:=(by rw [qU];omega);go_wp2_with (at_builtin;refine aM eB rfl (.tmp 21) (.tmp 25) 29 rfl Tryz.underlying29 w.heap.size rfl d [UInt8.ofNat (y % 2)] _ _ _ HB.out rfl rfl bb D.size ?_);intro v' w4 z;go_wp2_with fail;go_roundw;case rel=>exact⟨k+1,y / 2,by omega,by go_num,by go_num,by omega,ba,by rw [HL.out];exact z.own,z.below d D (ag _) D.size⟩
    case measure=>simp [intOf];omega
  · obtain rfl:k=n:=(by omega);have cf:¬((k:Int)<k):=(by omega);obtain rfl:y=0:=(by rw [I.out,HDiv.out]);obtain⟨J,K,U⟩:=d.shape';rw [qU]at U;subst U;have F:=h.2.1.fr D;have V:=jH h.2.1 d (ag _);have X:cP wr base g T q l:=⟨D.heap h.1,F,h.2.2⟩;have Y:aA g q q w wr:=aA.fr D (aA.refl g q wr);clear F;rw [show((0:Nat):Int)=0 from rfl];go_wp2_with fail;go_loopw [9] (fun A wr=>∃ (j:Nat) (o:Value) (m:List UInt8),j<=k/\A=.int .i64 ((j:Int) - 1)/\cP wr base g T o m/\aA g q o w wr/\Ow wr w.heap.size eB (.slice J k K) (je x k)/\Hid ((Value.slice J k K).ownBlock=none\/(Value.slice J k K).ownBlock≠o.ownBlock)/\m.length<=1000000000 - j/\Hid (l++aW x k=m++aW x j)) (fun A _=>(intOf A+1).toNat);case atStart=>exact⟨k,q,l,ag _,rfl,X,Y,d,V,by omega,rfl⟩
    case round=>
     clear X Y d V D;obtain⟨j,o,m,hj,rfl,L,M,d,Z,cj,O⟩:=hrel;rcases lU j with rfl | hp;· have Q:Hid (l++aW x k=m):=(by show _=_;rw [O.out,aW,dm]);go_wp2_with fail;go_ret;exact⟨rfl,o,by rw [Q.out];exact L,M⟩
     · obtain⟨i,rfl⟩:∃ i,j=i+1:=⟨j - 1,by omega⟩;have aa:((i+1:Nat):Int) - 1=(i:Int):=(by omega);rw [aa];have a6:IntKind.i64.wrap ((i:Int) - 1)=(i:Int) - 1:=ar _ (by omega);have cm:(0:Int)<=i:=(by omega);have cn:(i:Int)<k:=(by omega);obtain⟨b,co,cp,hv,e1⟩:=d.see.cell1 (fun c=>Fk.u8 c) rfl i (by rw [qU];omega);rw [FG,qU]at *;have Q:Hid (l++aW x k=(m++[UInt8.ofNat (x / 2 ^ i % 2)])++aW x i):=(by show _=_;rw [O.out,aW];simp);have ab:UInt8.ofNat (x / 2 ^ i % 2)=0\/UInt8.ofNat (x / 2 ^ i % 2)=1:=I8 _;have bd:=ad ab;clear ab aa O;generalize UInt8.ofNat (x / 2 ^ i % 2)=c at *;have bf:=ad L;obtain⟨G,F,ct,cv⟩:=L;have e0:=ae G 0 rfl;have cy:(wr.alloc (.cells #[Fk.u8 c] 5)).cell? ⟨g,0,none⟩=some o:=(by rw [aL ((gz _ _ _ (aR.1 G).1).trans G)];rfl);have bk:Hid (m.length+[c].length<=2147483648):=(by show _<=_;simp;omega);have cz:=M.1.size;have bm:Hid (base<=wr.heap.size):=(by show _<=wr.heap.size;omega);obtain⟨va,vc,rfl⟩:=F.shape';cases hv;go_upto_region 14 with fail
       go_region_law (first
        | (refine oD eB rfl (.tmp 41) (.tmp 46) 29 rfl Tryz.underlying29 base rfl F [c] _ _ _ rfl rfl rfl bk.out bm.out ?_
           intro v' w4 z
           have bn := z.own
           obtain ⟨bt, bu, ac⟩ := bn.shape'
           rw [show (m ++ [c]).length = m.length + 1 from by simp] at ac
           subst ac
           have k0 := z.chg'.heap G (fun e => by have := (F.lt _ e).1; omega)
           have e3 : ∃ u, w4.cell? ⟨g, 0, none⟩ = some u := ⟨_, by rw [aL k0]; rfl⟩
           obtain ⟨u0, e3⟩ := e3
           have e4 : w4.frozen? ⟨g, 0, none⟩ = false := az k0 0))
       all_goals go_wp2_with fail
       all_goals obtain⟨r1,r2⟩:=sq bf.out z bd.out;have r3:=et (i:=0) (u:=Value.slice bt (m.length+1) bu) (z.other d Z.out) a2;exact⟨⟨i,_,_,by omega,rfl,r1,M.trans r2,r3,z.apart d Z.out,by rw [an];simp;omega,Q⟩,by simp [intOf]⟩
theorem Jp(n:Nat)(Z:n<=100000)(base g:Nat)(T:TypeId)(y:Value)(l:List UInt8)(w:World)(h:cP w base g T y l)(hl:l.length+n+1<=1000000000)(R:base<=w.heap.size) :
  Calls Tryz.prog 186 #[.pointer (some ⟨g,0,none⟩),N n] w fun e w'=>e=.returned (.int .i64 0)/\∃ q,cP w' base g T q (l++gK n)/\aA g y q w w':=by
 have d1:¬(n:Int)<0:=by omega
 have d3:¬(100000:Int)<n:=by omega
 go_enter Tryz.func186, Tryz.ntmps186;go_wp2_with fail;go_loopw [5] (fun D wr=>∃ (i:Nat) (q:Value) (m:List UInt8),i<=n/\D=N i/\cP wr base g T q m/\aA g y q w wr/\Hid (m=l++List.replicate i 0)/\m.length<=1000000000 - 1) (fun D _=>n - (intOf D).toNat);case atStart=>exact⟨0,y,l,ap _,rfl,h,aA.refl g y w,by show _=_;simp,by omega⟩
 case round=>
  clear h;obtain⟨i,q,m,hi,rfl,L,F,G,av⟩:=hrel;have M:=ad L;obtain⟨I,z,a0,a1⟩:=L;have e0:=ae I 0 rfl;have O:base<=wr.heap.size:=aq R F.1.size;obtain⟨va,vc,rfl⟩:=z.shape';have Q:m.length+1<=2147483648:=(by omega);by_cases a5:i<n
  · have a6:(i:Int)<n:=(by omega);go_wp2_with (at_builtin;refine aM eB rfl (.tmp 21) (.tmp 22) 29 rfl Tryz.underlying29 base rfl z [0] _ _ _ rfl rfl rfl Q O ?_);intro v' w4 d;obtain⟨U,V,A⟩:=d.own.shape';rw [show(m++[(0:UInt8)]).length=m.length+1 from by simp]at A;subst A;obtain⟨J,K⟩:=sq M.out d (.inl rfl);have o:=d.chg'.heap I (fun e=>by have:=(z.lt _ e).1;omega);have X:=ae o 0 rfl;have Y:w4.frozen? ⟨g,0,none⟩=false:=az o 0;clear o;go_wp2_with fail;go_roundw;case rel=>exact⟨i+1,_,_,by omega,by go_num,J,F.trans K,by show _=_;rw [G.out,vL,eE],by have:=G.out;rw [an,this];simp;omega⟩
    case measure=>simp [intOf];omega
  · obtain rfl:i=n:=(by omega);have a7:¬((i:Int)<i):=(by omega);go_wp2_with (at_builtin;refine aM eB rfl (.tmp 30) (.tmp 31) 29 rfl Tryz.underlying29 base rfl z [1] _ _ _ rfl rfl rfl Q O ?_);intro v' w4 d;obtain⟨U,V,A⟩:=d.own.shape';rw [show(m++[(1:UInt8)]).length=m.length+1 from by simp]at A;subst A;obtain⟨J,K⟩:=sq M.out d (.inr rfl);have o:=d.chg'.heap I (fun e=>by have:=(z.lt _ e).1;omega);have X:=ae o 0 rfl;have Y:w4.frozen? ⟨g,0,none⟩=false:=az o 0;clear o;go_wp2_with fail;go_ret;refine⟨rfl,_,?_,F.trans K⟩;have e:l++gK i=m++[1]:=(by rw [G.out];unfold gK;rw [eE]);rw [e];exact J
def gj(l:List UInt8)(q:Nat):Nat->Nat
 | 0=>0
 | t+1=>2*gj l q t+em l (8*q+t)
theorem yr(l:List UInt8)(q:Nat):gj l q 8=eP l q:=by
 simp only [gj,eP,cX];omega
theorem EC{l:List UInt8}(h:kE l)(q t:Nat):gj l q t<2 ^ t:=by
 induction t with
 | zero=>simp [gj]
 | succ t d=>have:=kC h (8*q+t);rw [gj,eA];omega
theorem AM (base g : Nat) (T : TypeId) (J : Value) (l : List UInt8) (w : World) (h : cP w base g T J l) (hl : l.length ≤ 7999992) :
    Calls Tryz.prog 180 #[.pointer (some ⟨g,0,none⟩)] w fun e w'=>∃ v,e=.returned v/\Ow w' w.heap.size eB v (bM l)/\Fr w w':=by
  obtain⟨K,y,a4,z⟩:=h;have L:=y.see;obtain⟨M,O,rfl⟩:=y.shape';clear y;go_enter Tryz.func180, Tryz.ntmps180;go_wp2_with fail;go_loopw [3,4] (fun Q A wr=>∃ q:Nat,q<=(l.length+7) / 8/\A=.int .i64 (8*(q:Int))/\Ow wr w.heap.size eB Q ((bM l).take q)/\Fr w wr) (fun _ A _=>l.length+8 - (intOf A).toNat);case atStart=>exact⟨0,ap _,rfl,Ow.nil,Fr.refl w⟩
  case round=>
    obtain⟨q,hq,rfl,m,d⟩:=hrel;have e0:wr.cell? ⟨g,0,none⟩=some (.slice M l.length O):=(by rw [aL (d.heap K)];rfl);have q0:(0:Int)<=8*(q:Int):=(by omega);by_cases R:q<(l.length+7) / 8
    · have ba:8*(q:Int)<l.length:=(by omega);have U:Hid ((bM l).take (q+1)=(bM l).take q++[UInt8.ofNat (gj l q 8)]):=(by show _=_;rw [cL (by rw [jb];exact R),yu,yr]);have V:Hid (((bM l).take q).length=q):=(by show _=_;rw [aV,jb];omega);have X:=L.fr d;go_wp2_with fail;go_loop [5,6] (fun Y D=>∃ t:Nat,t<=8/\D=.int .i64 (8*(q:Int)+t)/\Y=N (gj l q t)) (fun _ D=>(8*(q:Int)+8 - intOf D).toNat);case atStart=>exact⟨0,by omega,by simp,rfl⟩
      case round=>
        obtain⟨t,Z,rfl,rfl⟩:=hrel;have aa:=EC z q t;have ab:2 ^ t<=2 ^ 8:=eC (by omega) Z;have bc:gj l q t<=256:=(by omega);clear aa ab;by_cases bd:t<8
        · have bf:8*(q:Int)+t<8*(q:Int)+8:=(by omega);have F:Hid (gj l q (t+1)=2*gj l q t+em l (8*q+t)):=rfl;have bk:(0:Int)<=8*(q:Int)+t:=(by omega);by_cases G:8*q+t<l.length
          · have ac:8*(q:Int)+t<l.length:=(by omega);obtain⟨b,bm,bn,aj,e1⟩:=X.cell1 (fun c=>Fk.u8 c) rfl (8*q+t) G;have av:=kC z (8*q+t);have o:Hid (em l (8*q+t)=l[8*q+t].toNat):=(by show _=_;unfold em;rw [kA l _ _ G]);generalize em l (8*q+t)=bb at *;generalize l[8*q+t]=c at *;have bx:c.toNat<=1:=(by rw [<- o.out];exact av);generalize gj l q t=p at *;cases aj;have bz:(8*(q:Int)+t).toNat=8*q+t:=(by omega);go_wp2_with fail;go_round;case rel=>exact⟨t+1,by omega,by go_num,by rw [F.out,o.out];go_num⟩
            case measure=>simp [intOf];omega
          · have ac:¬8*(q:Int)+t<l.length:=(by omega);have o:Hid (em l (8*q+t)=0):=jo l _ (by omega);generalize gj l q t=p at *;go_wp2_with fail;go_round;case rel=>exact⟨t+1,by omega,by go_num,by rw [F.out,o.out];go_num⟩
            case measure=>simp [intOf];omega
        · obtain rfl:t=8:=(by omega);have b0:¬(8*(q:Int)+8<8*(q:Int)+8):=(by omega);have a0:gj l q 8<256:=(by rw [yr];exact uD z q);have b1:IntKind.u8.wrap (gj l q 8:Int)=gj l q 8:=(by rw [km];omega);have a1:((bM l).take q).length+1<=2147483648:=(by rw [V.out];omega);have a2:=ad (lN (gj l q 8) a0);generalize gj l q 8=p at *;go_wp2_with (at_builtin;refine aM eB rfl (.tmp 42) (.tmp 45) 29 rfl Tryz.underlying29 w.heap.size rfl m [UInt8.ofNat p] _ _ _ a2.out rfl rfl a1 d.size ?_);intro v' w4 I;go_wp2_with fail;go_roundw;case rel=>exact⟨q+1,by omega,by go_num,by rw [U.out];exact I.own,I.below m d (ag _) d.size⟩
          case measure=>simp [intOf];omega
    · have b2:¬8*(q:Int)<l.length:=(by omega);rw [eo (by rw [jb];omega)]at m;go_wp2_with fail;go_ret;exact⟨_,rfl,m,d⟩
theorem iI{w:World}{v:Value}{l:List Nat}(h:af w eJ v l)(k:Nat)(o:k<l.length) :
  ∃ b d m,v=.slice (some ⟨b,d,none⟩) l.length m/\w.cell? ⟨b,d+k,none⟩=some (N l[k]):=by
 obtain⟨b,d,m,rfl,z,A,q⟩:=h.cells (by intro e;simp [e]at o);have y:=q k o 0 (by decide) _ rfl;exact⟨b,d,m,rfl,by simpa [eJ] using y⟩
theorem DX (d : Nat) (v : Value) (l : List Nat) (w : World) (A : af w eJ v l) :
    Calls Tryz.prog 155 #[N d,v] w fun e w'=>e=.returned (.bool (bQ d 0 l))/\Fr w w':=by
  obtain⟨a,R,rfl,T,I,U⟩:=A.shape;unfold maxLen at I;go_enter Tryz.func155, Tryz.ntmps155;go_wp2_with fail;go_loopw [5,10] (fun J z wr=>∃ k h:Nat,k<=l.length/\z=N k/\J=.int .i64 ((h:Int) - 1)/\Hid (bQ d 0 l=bQ d h (l.drop k))/\Fr w wr) (fun _ z _=>l.length - (intOf z).toNat);case atStart=>exact⟨0,0,ap _,rfl,rfl,rfl,Fr.refl w⟩
  case round=>
    obtain⟨k,h,V,rfl,rfl,m,y⟩:=hrel;by_cases D:k<l.length
    · obtain⟨b,X,Y,K,Z⟩:=iI (A.fr y) k D;have q:=ad (qL d h l k D);generalize l[k]=x at *;cases K;have i1:(0:Int)<=k:=(by omega);have i2:(k:Int)<l.length:=(by omega);by_cases F:h<=x
      · have L:decide ((x:Int)<=(h:Int) - 1)=false:=(by simp;omega);have M:¬(x:Int)<=(h:Int) - 1:=(by omega);by_cases G:x<d;· have O:decide ((d:Int)<=x)=false:=(by simp;omega);have Q:decide (d<=x)=false:=(by simp;omega);have o:Hid (bQ d 0 l=bQ d (x+1) (l.drop (k+1))):=(by show _=_;rw [m.out,q.out,bs F,bs G];rfl);clear m q;go_wp2_with fail;exact⟨⟨k+1,x+1,by omega,by go_num,by rw [show(((x+1:Nat):Int) - 1)=(x:Int)from by omega],o.out,y⟩,by simp [intOf];omega⟩
        · have O:decide ((d:Int)<=x)=true:=bs (by omega);have Q:(d:Int)<=x:=(by omega);have o:Hid (bQ d 0 l=false):=(by show _=_;rw [m.out,q.out,bi G];simp);clear m q;go_wp2_with fail;go_ret;exact⟨by rw [o.out];rfl,y⟩
      · have L:decide ((x:Int)<=(h:Int) - 1)=true:=(by simp;omega);have M:(x:Int)<=(h:Int) - 1:=(by omega);have o:Hid (bQ d 0 l=false):=(by show _=_;rw [m.out,q.out,bi F];simp);clear m q;go_wp2_with fail;go_ret;exact⟨by rw [o.out];rfl,y⟩
    · obtain rfl:k=l.length:=(by omega);have ac:¬((l.length:Int)<l.length):=(by omega);have o:Hid (bQ d 0 l=true):=(by show _=_;rw [m.out,fZ,bQ]);go_wp2_with fail;go_ret;exact⟨by rw [o.out];rfl,y⟩
theorem Ba(d:Nat)(v:Value)(l:List Nat)(w:World)(J:af w eJ v l) :
  Calls Tryz.prog 183 #[N d,v] w fun e w'=>e=.returned (.bool (bQ d 0 l))/\Fr w w':=by
 obtain⟨a,a6,rfl,a7,Z,ba⟩:=J.shape;unfold maxLen at Z;go_enter Tryz.func183, Tryz.ntmps183;go_wp2_with fail;go_loopw [5] (fun L wr=>∃ k D:Nat,k<=l.length/\L=N k/\Hid ((k=0/\D=0)\/(0<k/\∃ y,l[k - 1]? = some y/\D=y+1))/\Hid (bQ d 0 l=bQ d D (l.drop k))/\Fr w wr) (fun L _=>l.length - (intOf L).toNat);case atStart=>exact⟨0,0,ap _,rfl,.inl ⟨rfl,rfl⟩,rfl,Fr.refl w⟩
 case round=>
  obtain⟨k,D,hk,rfl,z,m,o⟩:=hrel;by_cases M:k<l.length
  · obtain⟨b,bc,bd,hv,c0⟩:=iI (J.fr o) k M;have A:=ad (qL d D l k M);have F:Hid (l[k]? = some l[k]):=bo M;generalize l[k]=x at *;cases hv;have i1:(0:Int)<=k:=(by omega);have i2:(k:Int)<l.length:=(by omega);have bn:decide ((x:Int)<0)=false:=(by simp);by_cases T:x<d
    · have ab:decide ((d:Int)<=x)=false:=(by simp;omega);have ac:decide (d<=x)=false:=(by simp;omega);by_cases U:D<=x
      · have q:Hid (bQ d 0 l=bQ d (x+1) (l.drop (k+1))):=(by show _=_;rw [m.out,A.out,bs U,bs T];rfl);have V:Hid ((k+1=0/\x+1=0)\/(0<k+1/\∃ y,l[k+1 - 1]? = some y/\x+1=y+1)):=.inr ⟨by omega,x,by simpa using F.out,rfl⟩;rcases z.out with⟨K,h⟩ | ⟨K,y,h,O⟩;· have X:decide ((0:Int)<k)=false:=(by simp;omega);have Y:decide (0<k)=false:=(by simp;omega);clear m A z F K h;go_upto_region 4 with fail;go_quiet (fail);go_wp2_with fail;exact⟨⟨k+1,x+1,by omega,by go_num,V.out,q.out,o.drewN _⟩,by simp [intOf];omega⟩
        · obtain⟨b',av,a0,Q,R⟩:=iI (J.fr o) (k - 1) (by omega);have G:l[k - 1]=y:=(by rw [bo (by omega)]at h;exact ez h);rw [G]at R;cases Q;have a1:k - 1<l.length:=(by omega);have X:IntKind.i64.wrap ((k:Int) - 1)=((k - 1:Nat):Int):=(by rw [ar _ (by omega)];omega);clear G h z F m A;generalize k - 1=I at *;have j1:(0:Int)<=(I:Nat):=(by omega);have j2:((I:Nat):Int)<l.length:=(by omega);have Y:(0:Int)<k:=(by omega);have a4:decide ((x:Int)<=y)=false:=(by simp;omega);have a5:decide (x<=y)=false:=(by simp;omega);clear O;go_upto_region 4 with fail;go_quiet (fail);go_wp2_with fail;exact⟨⟨k+1,x+1,by omega,by go_num,V.out,q.out,o.drewN _⟩,by simp [intOf];omega⟩
      · have q:Hid (bQ d 0 l=false):=(by show _=_;rw [m.out,A.out,bi U];simp);rcases z.out with⟨K,h⟩ | ⟨K,y,h,O⟩;· omega
        · obtain⟨b',av,a0,Q,R⟩:=iI (J.fr o) (k - 1) (by omega);have G:l[k - 1]=y:=(by rw [bo (by omega)]at h;exact ez h);rw [G]at R;cases Q;have a1:k - 1<l.length:=(by omega);have X:IntKind.i64.wrap ((k:Int) - 1)=((k - 1:Nat):Int):=(by rw [ar _ (by omega)];omega);clear G h z F m A;generalize k - 1=I at *;have j1:(0:Int)<=(I:Nat):=(by omega);have j2:((I:Nat):Int)<l.length:=(by omega);have Y:(0:Int)<k:=(by omega);have a4:(x:Int)<=y:=(by omega);have a5:x<=y:=(by omega);clear O;go_upto_region 4 with fail;go_quiet (fail);go_wp2_with fail;go_ret;exact⟨by rw [q.out];rfl,o.drewN _⟩
    · have ab:(d:Int)<=x:=(by omega);have ac:d<=x:=(by omega);have q:Hid (bQ d 0 l=false):=(by show _=_;rw [m.out,A.out,bi T];simp);clear m A z F;go_upto_region 4 with fail;go_quiet (fail);go_wp2_with fail;go_ret;exact⟨by rw [q.out];rfl,o.drewN _⟩
  · obtain rfl:k=l.length:=(by omega);have bt:¬((l.length:Int)<l.length):=(by omega);have q:Hid (bQ d 0 l=true):=(by show _=_;rw [m.out,fZ,bQ]);clear z;go_wp2_with fail;go_ret;exact⟨by rw [q.out];rfl,o⟩
theorem DW(k m:Nat)(d:1<=k)(h:k+m<=255)(w:World):Calls Tryz.prog 114 #[N k,N m] w fun e w'=>e=.returned (.bool true)/\w=w':=by
 have o:(1:Int)<=k:=by omega
 have q:(0:Int)<=m:=by omega
 have y:(k:Int)<=255:=by omega
 have z:(m:Int)<=255:=by omega
 have A:(k:Int)+m<=255:=by omega
 go_enter Tryz.func114, Tryz.ntmps114;go_wp2_with fail;go_ret;exact⟨rfl,rfl⟩
theorem AU(k m:Nat)(d:1<=k)(h:k+m<=255)(w:World):Calls Tryz.prog 188 #[N k,N m] w fun e w'=>e=.returned (.bool true)/\w=w':=by
 have o:(1:Int)<=k:=by omega
 have q:(0:Int)<=m:=by omega
 have y:(k:Int)<=255:=by omega
 have z:(m:Int)<=255 - k:=by omega
 go_enter Tryz.func188, Tryz.ntmps188;go_wp2_with fail;go_ret;exact⟨rfl,rfl⟩
def vC(L:Nat)(d:List Hd):Prop:=∀ i (h:i<d.length),d[i].n=L
theorem AE{w:World}{v:Value}{d:List Hd}{m:List (List UInt8)}{L:Nat}(o:bY w aP eB v d m)(z:∀ p∈m,p.length=L):vC L d:=by
 intro i h;have q:i<m.length:=by rw [<- o.2.1];exact h
 obtain⟨a,A,y,_⟩:=(o.2.2 i h q).shape;have e:=z _ (aH q);generalize d[i]=x at *;obtain⟨D,F,G⟩:=x;simp only [Hd.v,ed]at y;rw [<- e];exact y.2.1
theorem IW(v:Value)(d:List Hd)(L:Nat)(w:World)(m:af w aP v d)(q:vC L d) :
  Calls Tryz.prog 115 #[v] w fun e w'=>e=.returned (.bool true)/\w=w':=by
 obtain⟨a,M,rfl,O,G,Q⟩:=m.shape;unfold maxLen at G;go_enter Tryz.func115, Tryz.ntmps115;go_wp2_with fail;go_loop [7] (fun o=>∃ i:Nat,i<=d.length/\o=N i) (fun o=>d.length - (intOf o).toNat);case atStart=>exact⟨0,ap _,rfl⟩
 case round=>
  obtain⟨i,R,rfl⟩:=hrel;by_cases z:i<d.length
  · obtain⟨b,T,c,I,J⟩:=m.cell1 (fun(h:Hd)=>h.v) rfl i z;obtain⟨U,V,c2,A,K⟩:=m.cell1 (fun(h:Hd)=>h.v) rfl 0 (by omega);have D:=q i z;have F:=q 0 (by omega);generalize d[i]=x at *;generalize d[0]'(by omega)=y at *;obtain⟨X,Y,Z⟩:=x;obtain⟨ya,yn,yc⟩:=y;simp only at D F;subst D F;cases I;simp only [ed,iS,Addr.mk.injEq,iR]at A;obtain⟨⟨rfl,rfl⟩,_,rfl⟩:=A;simp only [Hd.v,cX]at J K;have i1:(0:Int)<=i:=(by omega);have i2:(i:Int)<d.length:=(by omega);have i3:(0:Int)<d.length:=(by omega);go_wp2_with fail;go_round;case rel=>exact⟨i+1,by omega,by go_num⟩
    case measure=>simp [intOf];omega
  · obtain rfl:i=d.length:=(by omega);have a1:¬((d.length:Int)<d.length):=(by omega);go_wp2_with fail;go_ret;exact⟨rfl,rfl⟩
theorem K2(v:Value)(d:List Hd)(L:Nat)(w:World)(I:1<=d.length)(o:af w aP v d)(z:vC L d) :
  Calls Tryz.prog 189 #[v] w fun e w'=>e=.returned (.bool true)/\Fr w w':=by
 obtain⟨a,Q,rfl,R,J,T⟩:=o.shape;unfold maxLen at J;go_enter Tryz.func189, Tryz.ntmps189;go_wp2_with fail;go_loopw [3] (fun q wr=>∃ i:Nat,1<=i/\i<=d.length/\q=N i/\Fr w wr) (fun q _=>d.length - (intOf q).toNat);case atStart=>exact⟨1,ag _,I,rfl,Fr.refl w⟩
 case round=>
  obtain⟨i,U,V,rfl,m⟩:=hrel;by_cases A:i<d.length
  · obtain⟨b,X,c,K,M⟩:=(o.fr m).cell1 (fun(h:Hd)=>h.v) rfl i A;obtain⟨Y,Z,c2,D,O⟩:=(o.fr m).cell1 (fun(h:Hd)=>h.v) rfl 0 (by omega);have F:=z i A;have G:=z 0 (by omega);generalize d[i]=x at *;generalize d[0]'(by omega)=y at *;obtain⟨xa,xn,xc⟩:=x;obtain⟨ya,yn,yc⟩:=y;simp only at F G;subst F G;cases K;simp only [ed,iS,Addr.mk.injEq,iR]at D;obtain⟨⟨rfl,rfl⟩,_,rfl⟩:=D;simp only [Hd.v,cX]at M O;have i1:(0:Int)<=i:=(by omega);have i2:(i:Int)<d.length:=(by omega);have i3:(0:Int)<d.length:=(by omega);go_wp2_with fail;go_quiet (fail);go_wp2_with fail;go_roundw;case rel=>exact⟨i+1,by omega,by omega,by go_num,m.drewN _⟩
    case measure=>simp [intOf];omega
  · obtain rfl:i=d.length:=(by omega);have a4:¬((d.length:Int)<d.length):=(by omega);go_wp2_with fail;go_ret;exact⟨rfl,m⟩
def bU(w:World):Prop:=∀ i,i<16->w.cell? ⟨0,i,none⟩=some (.int .u32 ((gg i:Nat):Int))
theorem bU.fr{w w':World}(h:bU w)(d:Fr w w'):bU w':=fun i e=>d.cell (h i e)
abbrev U4(n:Nat):Value:=.int .u32 (n:Int)
theorem AA(x:Nat)(h:x<4294967296):bits .and .u32 (x:Int) 15=((x % 16:Nat):Int):=by
 have:=IP x 15 h (by omega);have e:x &&& 15=x % 16:=Nat.and_two_pow_sub_one_eq_mod x 4;rw [e]at this;exact this
theorem yA(x:Nat)(h:x<4294967296):bits .xor .u32 IntKind.u32.max (x:Int)=((4294967295 - x:Nat):Int):=by
 have e:=wk 32 x h;rw [Nat.xor_comm]at e;have:=mU 4294967295 x (by omega) h;rw [show(4294967295:Nat) ^^^ x=4294967295 - x from e]at this;exact this
theorem KR (x : Nat) (hx : x < 4294967296) (v : Value) (A : List Hd) (d : List (List UInt8)) (w : World) (D : bY w aP eB v A d) (L : bU w) :
    Calls Tryz.prog 102 #[U4 x,v] w fun e w'=>e=.returned (U4 (4294967295 - cO (4294967295 - x) d.flatten))/\w=w':=by
  obtain⟨a,bm,rfl,bn,ac,bt⟩:=D.1.shape;unfold maxLen at ac;have aj:=yA x hx;have M:=ad D.2.1;go_enter Tryz.func102, Tryz.ntmps102;go_wp2_with fail;go_loop [5,14] (fun G I=>∃ k:Nat,k<=A.length/\I=N k/\G=U4 (cO (4294967295 - x) (d.take k).flatten)) (fun _ I=>A.length - (intOf I).toNat);case atStart=>exact⟨0,ap _,rfl,rfl⟩
  case round=>
    obtain⟨k,hk,rfl,rfl⟩:=hrel;clear aj;have J:cO (4294967295 - x) (d.take k).flatten<4294967296:=uw _ _ (by omega);by_cases O:k<A.length
    · obtain⟨b,bv,bx,av,e0⟩:=D.1.cell1 (fun(h:Hd)=>h.v) rfl k O;have Q:k<d.length:=(by have:=M.out;omega);have F:=D.2.2 k O Q;have HF:Hid (cO (4294967295 - x) (d.take (k+1)).flatten=cO (cO (4294967295 - x) (d.take k).flatten) d[k]):=(by show _=_;rw [pd d k Q,Hk]);obtain⟨a2,c2,R,_⟩:=F.shape;generalize A[k]=h at *;generalize d[k]=p at *;generalize cO (4294967295 - x) (d.take k).flatten=Y at *;obtain⟨ha,a3,b1⟩:=h;simp only [Hd.v,ed]at R;obtain⟨rfl,rfl,rfl⟩:=R;simp only [Hd.v]at e0 F;cases av;have m:(0:Int)<=k:=(by omega);have o:(k:Int)<A.length:=(by omega);have a4:=F.le;unfold maxLen at a4;go_wp2_with fail;go_loop [5,20] (fun G K=>∃ j:Nat,j<=p.length/\K=N j/\G=U4 (cO Y (p.take j))) (fun _ K=>p.length - (intOf K).toNat);case atStart=>exact⟨0,ap _,rfl,rfl⟩
      case round=>
        obtain⟨j,hj,rfl,rfl⟩:=hrel;have T:cO Y (p.take j)<4294967296:=uw _ _ J;by_cases U:j<p.length
        · obtain⟨b2,b5,b8,a5,g0⟩:=F.cell1 (fun c=>Fk.u8 c) rfl j U;have HZ:Hid (cO Y (p.take (j+1))=nV (cO Y (p.take j)) p[j].toNat):=zP Y p j U;generalize p[j]=c at *;generalize cO Y (p.take j)=z at *;cases a5;have bB:=c.toNat_lt;have k1:=mU z c.toNat T (by omega);have a7:z ^^^ c.toNat<2 ^ 32:=iw T (by omega);have HB:=ad (Iu z c.toNat);generalize z ^^^ c.toNat=q at *;have k2:=AA q a7;have V:q % 16<16:=(by omega);generalize q % 16=m at *;have t1:=L m V;have X:=wV m V;have k3:bits .xor .u32 ((q:Int) / 16) ((gg m:Nat):Int)=(((q / 16) ^^^ gg m:Nat):Int):=(by rw [show(q:Int) / 16=((q / 16:Nat):Int) by omega];exact mU (q / 16) (gg m) (by omega) X);have bb:(q / 16) ^^^ gg m<2 ^ 32:=iw (by omega) X;generalize (q / 16) ^^^ gg m=y at *;have k4:=AA y bb;have Z:y % 16<16:=(by omega);generalize y % 16=o at *;have t2:=L o Z;have bc:=wV o Z;have k5:bits .xor .u32 ((y:Int) / 16) ((gg o:Nat):Int)=(((y / 16) ^^^ gg o:Nat):Int):=(by rw [show(y:Int) / 16=((y / 16:Nat):Int) by omega];exact mU (y / 16) (gg o) (by omega) bc);have HE:Hid (cO Y (p.take (j+1))=y / 16 ^^^ gg o):=(by show _=_;rw [HZ.out,HB.out]);generalize (y / 16) ^^^ gg o=z3 at *;generalize gg m=y1 at *;generalize gg o=y2 at *;have l1:(0:Int)<=m:=(by omega);have l2:(m:Int)<16:=(by omega);have l3:(0:Int)<=o:=(by omega);have l4:(o:Int)<16:=(by omega);have l5:(0:Int)<=j:=(by omega);have l6:(j:Int)<p.length:=(by omega);go_wp2_with fail;go_round;case rel=>exact⟨j+1,by omega,by go_num,by rw [HE.out]⟩
          case measure=>simp [intOf];omega
        · obtain rfl:j=p.length:=(by omega);have bf:¬((p.length:Int)<p.length):=(by omega);rw [cu,<- HF.out];go_wp2_with fail;go_round;case rel=>exact⟨k+1,by omega,by go_num,rfl⟩
          case measure=>simp [intOf];omega
    · obtain rfl:k=A.length:=(by omega);have bf:¬((A.length:Int)<A.length):=(by omega);rw [eo (by have:=M.out;omega)]at J ⊢;have a3:=yA _ J;generalize aa:cO (4294967295 - x) d.flatten=Y at *;have HY:=ad aa;clear aa;go_wp2_with fail;go_ret;exact⟨by rw [HY.out];rfl,rfl⟩
theorem EW(w:World)(v:Value)(r:Hd)(p:List UInt8)(h:v=r.v)(m:af w eB v p)(d:Array Value)(o:d=#[v]):bY (w.alloc (.cells d 29)) aP eB (.slice (some ⟨w.heap.size,0,none⟩) 1 1) [r] [p]:=by
 subst h o;refine⟨iY aP w [r] _ _ 1 rfl rfl (by simp [maxLen]),rfl,fun i e q=>?_⟩;have:i=0:=by simp at e;exact e
 subst this;exact m.fr ((Fr.refl w).alloc _)
theorem AJ(v:Value)(p:List UInt8)(w:World)(d:af w eB v p)(o:bU w) :
  Calls Tryz.prog 60 #[v] w fun e w'=>e=.returned (U4 (eY p))/\Fr w w':=by
 obtain⟨a,q,h,_⟩:=d.shape;have m:=EW w v ⟨a,p.length,q⟩ p h d #[v] rfl;subst h;have y:=ad (KR 0 (by omega) _ _ _ _ m (o.fr ((Fr.refl w).alloc _)));have z:Hid (4294967295 - cO (4294967295 - 0) [p].flatten=eY p):=by show _=_;unfold eY;simp
 generalize 4294967295 - cO (4294967295 - 0) [p].flatten=Y at *;clear m;go_enter Tryz.func60, Tryz.ntmps60;go_wp2_with fail;refine y.out.mono ?_;rintro e A ⟨rfl,rfl⟩;go_wp2_with fail;go_ret;exact⟨by rw [<- z.out];rfl,(Fr.refl w).alloc _⟩
def j7(s:Nat):List UInt8:=[UInt8.ofNat (s % 256),UInt8.ofNat (s / 256 % 256),UInt8.ofNat (s / 65536 % 256),UInt8.ofNat (s / 16777216 % 256)]
theorem wT(s:Nat)(m:s<4294967296)(w:World) :
  Calls Tryz.prog 59 #[U4 s] w fun e w'=>∃ v,e=.returned v/\Ow w' w.heap.size eB v (j7 s)/\Fr w w':=by
 have d:∀ W:World,Ow (W.alloc (.cells #[.int .u8 ((s:Int) % 256),.int .u8 ((s:Int) / 256 % 256),.int .u8 ((s:Int) / 65536 % 256),.int .u8 ((s:Int) / 16777216)] 5)) W.heap.size eB (.slice (some ⟨W.heap.size,0,none⟩) 4 4) (j7 s):=by intro W;refine iC eB W _ (j7 s) 4 rfl (by simp [maxLen,j7]) (ag _) ?_;rw [show(s:Int) % 256=((s % 256:Nat):Int) by omega,show(s:Int) / 256 % 256=((s / 256 % 256:Nat):Int) by omega,show(s:Int) / 65536 % 256=((s / 65536 % 256:Nat):Int) by omega,show(s:Int) / 16777216=((s / 16777216 % 256:Nat):Int) by omega];rw [mB _ (by omega),mB _ (by omega),mB _ (by omega),mB _ (by omega)];rfl
 have h:=ad (d w);clear d;go_enter Tryz.func59, Tryz.ntmps59;go_wp2_with fail;go_ret;exact⟨_,rfl,h.out,(Fr.refl w).alloc _⟩
theorem nZ(v:Value)(p:List UInt8)(w:World)(d:af w eB v p)(D:p.length<=1000000)(F:bU w) :
  Calls Tryz.prog 35 #[v] w fun e w'=>∃ v',e=.returned v'/\Ow w' w.heap.size eB v' (ay p)/\Fr w w':=by
 obtain⟨a,T,G,_⟩:=d.shape;have I:=ad (fun W (h:af W eB v p)=>mH v p W h D);have J:=ad (fun W (h:af W eB v p) (K:bU W)=>AJ v p W h K);have L:=ad (wT (eY p) (sY p));have M:Hid (ay p=p++j7 (eY p)):=rfl;generalize eY p=s at *;subst G;go_enter Tryz.func35, Tryz.ntmps35;go_wp2_with fail;refine(I.out _ d).mono ?_;rintro e U ⟨V,rfl,O,m⟩;go_wp2_with fail;refine(J.out _ (d.fr m) (F.fr m)).mono ?_;rintro e X ⟨rfl,q⟩;go_wp2_with fail;refine(L.out _).mono ?_;rintro e Y ⟨v3,rfl,Q,y⟩;have z:=O.fr (q.trans y);have o:=(m.trans q).trans y;have R:p.length+(j7 s).length<=2147483648:=by show _+4<=_;omega
 go_wp2_with (at_builtin;refine aN eB rfl (.tmp 4) (.tmp 7) 29 rfl Tryz.underlying29 w.heap.size rfl z _ _ rfl Q.see R o.size ?_);intro Z w4 A;go_wp2_with fail;go_ret;exact⟨_,rfl,by rw [M.out];exact A.own,A.below z o (ag _) o.size⟩
theorem K0 (x : Nat) (o : x < 4294967296) (w : World) :
    Calls Tryz.prog 236 #[U4 x] w fun e w'=>e=.returned (U4 (cC x))/\w=w':=by
  by_cases h:x % 2=1;· have d:Hid (cC x=(x / 2) ^^^ 3988292384):=(by show _=_;unfold cC;rw [ai h]);have m:(x:Int) % 2=1:=(by omega);have q:bits .xor .u32 ((x:Int) / 2) 3988292384=(((x / 2) ^^^ 3988292384:Nat):Int):=(by rw [show(x:Int) / 2=((x / 2:Nat):Int) by omega];exact mU (x / 2) 3988292384 (by omega) (by omega));go_enter Tryz.func236, Tryz.ntmps236;go_wp2_with fail;go_ret;exact⟨by rw [d.out];rfl,rfl⟩
  · have d:Hid (cC x=x / 2):=(by show _=_;unfold cC;rw [ah h]);have m:(x:Int) % 2=0:=(by omega);go_enter Tryz.func236, Tryz.ntmps236;go_wp2_with fail;go_ret;exact⟨by rw [d.out];go_num,rfl⟩
def pC:Nat->Nat->Nat
 | 0,x=>x
 | n+1,x=>cC (pC n x)
theorem I9(n x:Nat)(h:x<4294967296):pC n x<4294967296:=by
 induction n with
 | zero=>exact h
 | succ n d=>exact jn _ d
theorem JN(x:Nat)(R:x<4294967296)(v:Value)(p:List UInt8)(w:World)(y:af w eB v p) :
  Calls Tryz.prog 181 #[U4 x,v] w fun e w'=>e=.returned (U4 (4294967295 - cO (4294967295 - x) p))/\w=w':=by
 obtain⟨a,T,rfl,U,G,V⟩:=y.shape;unfold maxLen at G;have A:(4294967295:Int) - x=((4294967295 - x:Nat):Int):=by omega
 have I:=ad A;clear A;go_enter Tryz.func181, Tryz.ntmps181;go_wp2_with fail;go_loop [5,6] (fun d h=>∃ k:Nat,k<=p.length/\h=N k/\d=U4 (cO (4294967295 - x) (p.take k))) (fun _ h=>p.length - (intOf h).toNat);case atStart=>exact⟨0,ap _,rfl,by first | rfl | (rw [I.out];rfl)⟩
 case round=>
  obtain⟨k,X,rfl,rfl⟩:=hrel;have m:cO (4294967295 - x) (p.take k)<4294967296:=uw _ _ (by omega);by_cases D:k<p.length
  · obtain⟨b,Z,aa,J,e0⟩:=y.cell1 (fun c=>Fk.u8 c) rfl k D;have K:Hid (cO (4294967295 - x) (p.take (k+1))=pC 8 (cO (4294967295 - x) (p.take k) ^^^ p[k].toNat)):=zP _ p k D;generalize p[k]=c at *;generalize cO (4294967295 - x) (p.take k)=z at *;cases J;have ac:=c.toNat_lt;have k1:=mU z c.toNat m (by omega);have L:z ^^^ c.toNat<2 ^ 32:=iw m (by omega);generalize z ^^^ c.toNat=o at *;have i1:(0:Int)<=k:=(by omega);have i2:(k:Int)<p.length:=(by omega);go_wp2_with fail;go_loop [5,7] (fun d q=>∃ j:Nat,j<=8/\q=N j/\d=U4 (pC j o)) (fun _ q=>8 - (intOf q).toNat);case atStart=>exact⟨0,by omega,rfl,rfl⟩
    case round=>
     obtain⟨j,hj,rfl,rfl⟩:=hrel;by_cases a2:j<8
     · have a3:(j:Int)<8:=(by omega);have M:=ad (K0 (pC j o) (I9 j o L));go_wp2_with fail;refine(M.out _).mono ?_;rintro e w1 ⟨rfl,rfl⟩;go_wp2_with fail;go_round;case rel=>exact⟨j+1,by omega,by go_num,rfl⟩
       case measure=>simp [intOf];omega
     · obtain rfl:j=8:=(by omega);rw [<- K.out];go_wp2_with fail;go_round;case rel=>exact⟨k+1,by omega,by go_num,rfl⟩
       case measure=>simp [intOf];omega
  · obtain rfl:k=p.length:=(by omega);have a5:¬((p.length:Int)<p.length):=(by omega);rw [cu]at m ⊢;generalize F:cO (4294967295 - x) p=Y at *;have O:=ad F;clear F;have Q:Hid ((4294967295:Int) - Y=((4294967295 - Y:Nat):Int)):=(by show _=_;omega);go_wp2_with fail;go_ret;exact⟨by rw [O.out];first | rfl | (show Ending.returned (.int .u32 _)=_;rw [Q.out]),rfl⟩
theorem Jy(v:Value)(p:List UInt8)(w:World)(d:af w eB v p) :
  Calls Tryz.prog 121 #[v] w fun e w'=>e=.returned (U4 (eY p))/\w=w':=by
 obtain⟨a,q,h,_⟩:=d.shape;have m:=ad (JN 0 (by omega) v p w d);have o:Hid (4294967295 - cO (4294967295 - 0) p=eY p):=rfl;generalize 4294967295 - cO (4294967295 - 0) p=Y at *;subst h;go_enter Tryz.func121, Tryz.ntmps121;go_wp2_with fail;refine m.out.mono ?_;rintro e y ⟨rfl,rfl⟩;go_wp2_with fail;go_ret;exact⟨by rw [<- o.out];rfl,rfl⟩
theorem C7(s:Nat):j7 s=bl 4 s:=by
 simp only [j7,bl,oi]
theorem lQ(v:Value)(p:List UInt8)(w:World)(m:af w eB v p)(hn:p.length<=1000000) :
  Calls Tryz.prog 78 #[v] w fun e w'=>∃ v',e=.returned v'/\Ow w' w.heap.size eB v' (ay p)/\Fr w w':=by
 obtain⟨a,ac,M,_⟩:=m.shape;have O:=ad (Jy v p w m);have Q:Hid (ay p=p++bl 4 (eY p)):=by show _=_;rw [<- C7];rfl
 have R:=sY p;generalize eY p=s at *;subst M;have q:=iC eB w #[] [] 0 rfl (by simp [maxLen]) (ag _);have F:=m.fr ((Fr.refl w).alloc (.cells #[] 5));have T:([]:List UInt8).length+p.length<=2147483648:=by simp;omega
 go_enter Tryz.func78, Tryz.ntmps78;go_wp2_with fail;refine O.out.mono ?_;rintro e w1 ⟨rfl,rfl⟩;go_wp2_with (at_builtin;refine aN eB rfl (.tmp 8) (.tmp 9) 29 rfl Tryz.underlying29 w.heap.size rfl q _ _ rfl F T (by simp) ?_);intro U G d;have I:Fr w G:=d.below q ((Fr.refl w).alloc _) (ag _) (by simp);have J:Ow G w.heap.size eB U p:=d.own;clear d q F;go_wp2_with fail;go_loopw [3,4,5] (fun V X z wr=>∃ (i y:Nat) (o:List UInt8),i<=4/\z=N i/\V=U4 y/\y<4294967296/\Ow wr w.heap.size eB X o/\o.length=p.length+i/\Hid (ay p=o++bl (4 - i) y)/\Fr w wr) (fun _ _ z _=>4 - (intOf z).toNat);case atStart=>exact⟨0,s,p,by omega,rfl,rfl,R,J,rfl,Q.out,I⟩
 case round=>
  obtain⟨i,y,o,hi,rfl,rfl,hy,A,Y,K,h⟩:=hrel;clear J I;by_cases a1:i<4
  · have a2:(i:Int)<4:=(by omega);have L:4 - i=(4 - (i+1))+1:=(by omega);have D:Hid (ay p=o++[UInt8.ofNat (y % 256)]++bl (4 - (i+1)) (y / 256)):=(by show _=_;rw [K.out,L,bl];simp);have Z:Hid ((#[Value.int .u8 ((y:Int) % 256)]:Array Value).toList=eB.cells [UInt8.ofNat (y % 256)]):=(by show _=_;have:=lN (y % 256) (by omega);rw [show((y % 256:Nat):Int)=(y:Int) % 256 by omega]at this;exact this);have aa:o.length+1<=2147483648:=(by omega);clear L;generalize UInt8.ofNat (y % 256)=c at *;go_wp2_with (at_builtin;refine aM eB rfl (.tmp 15) (.tmp 19) 29 rfl Tryz.underlying29 w.heap.size rfl A [c] _ _ _ Z.out rfl rfl aa h.size ?_);intro v' w4 d;go_wp2_with fail;go_roundw;case rel=>exact⟨i+1,y / 256,o++[c],by omega,by go_num,by go_num,by omega,d.own,by rw [an,Y];rfl,D,d.below A h (ag _) h.size⟩
    case measure=>simp [intOf];omega
  · obtain rfl:i=4:=(by omega);have D:Hid (ay p=o):=(by show _=_;rw [K.out,e8,bl,dm]);go_wp2_with fail;go_ret;exact⟨_,rfl,by rw [D.out];exact A,h⟩
end Go.Proofs.YtdamnfpigajmoaaGreatDoor
