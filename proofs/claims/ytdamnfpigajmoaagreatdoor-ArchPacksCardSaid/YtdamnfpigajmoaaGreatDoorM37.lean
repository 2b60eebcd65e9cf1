/- Parts of the proof of ArchPacks: Hd2 Hd3. -/
import Derived.Test.YtdamnfpigajmoaaGreatDoorM41
import Derived.Test.YtdamnfpigajmoaaGreatDoorM15
import Derived.Test.YtdamnfpigajmoaaGreatDoorM36
import Derived.Test.YtdamnfpigajmoaaGreatDoorM35
set_option linter.unusedVariables false
set_option linter.unusedSectionVars false
set_option linter.unusedSimpArgs false
set_option maxHeartbeats 8000000
set_option maxRecDepth 100000
namespace Go.Proofs.YtdamnfpigajmoaaGreatDoor
open Go.RowKit Go.Fk
def lj(e:Nat)(p:Bool)(h d q c:Nat)(b:List UInt8):List UInt8:=
 ay (fE e p h d q c b.length)++dM b d q c (bG d c b.length)++ay (fE e p h d q c b.length)
theorem L4(g m o d q c n:Nat)(p:Bool){T:Value}(v:Value)(l:List UInt8)(w:World)(J:w.heap[g]? = some (ri m p o d q c n T))(y:af w eB v l)(K:bU w)(U:m<=32768)(V:o<256)(X:d<256)(Y:q<256)(Z:c<=4096)(h6:n<=1000000)(hl:l.length<=20000000) :
  Calls Tryz.prog 39 #[.pointer (some ⟨g,0,none⟩),v] w fun e w'=>∃ v,e=.returned v/\Ow w' w.heap.size eB v (ay (fE m p o d q c n)++l++ay (fE m p o d q c n))/\Fr w w':=by
 have L:=ad (fun W (h:Fr w W)=>Lj g m o d q c n p W (h.heap J) (K.fr h) U V X Y Z h6);have z:=fp (fE m p o d q c n);rw [uj]at z;have Hl:=ad z;have HA:=ad (fun W M O (ha:af W eB M (ay (fE m p o d q c n))) (hb:af W eB v l) (hc:af W eB O (ay (fE m p o d q c n)))=>IS M v O _ l _ W ha hb hc (by omega));clear z;obtain⟨a0,bd,hv,bf,bk,a2⟩:=y.shape;have HS:=ad (fun W (h:Fr w W)=>y.fr h);subst hv;clear y a2 K J;generalize ay (fE m p o d q c n)=H at *;go_enter Tryz.func39, Tryz.ntmps39;go_wp2_with fail;refine(L.out _ (Fr.refl w)).mono ?_;rintro e w1 ⟨v1,rfl,A,D⟩;obtain⟨p1,z1,rfl⟩:=A.shape';go_wp2_with fail;refine(L.out _ D).mono ?_;rintro e Q ⟨v2,rfl,F,G⟩;have I:=D.trans G;have HH:=ad (HA.out Q _ v2 (A.fr G).see (HS.out Q I) F.see);obtain⟨p2,z2,rfl⟩:=F.shape';clear A F D G;go_wp2_with fail;refine HH.out.mono ?_;rintro e w3 ⟨v3,rfl,R,a6⟩;have HR:=ad (R.rebase I.size);clear R;go_wp2_with fail;go_ret;exact⟨_,rfl,HR.out,I.trans a6⟩
theorem yW(d q c n:Nat)(m:q<=4*d)(o:4<=c)(e:d<=8)(h:c<=100)(y:n<=1000000):bG d c n*((d+q)*(c+4))<=16777216:=by
 have z:bG d c n*(d*c)<=n+d*c - 1:=Nat.div_mul_le_self _ _;have A:(d+q)*(c+4)<=(5*d)*(2*c):=b7 (by omega) (by omega);have D:(5*d)*(2*c)=10*(d*c):=by rw [Nat.mul_mul_mul_comm]
 have F:d*c<=8*100:=b7 e h;have G:bG d c n*((d+q)*(c+4))<=bG d c n*(10*(d*c)):=pM _ (by omega);have I:bG d c n*(10*(d*c))=10*(bG d c n*(d*c)):=by rw [lS]
 omega
theorem qS(x:Value):x.ownBlock=none\/x.ownBlock≠(Value.slice none 0 0).ownBlock:=by
 cases h:x.ownBlock with
 | none=>exact .inl rfl
 | some g=>exact .inr (by simp [Value.ownBlock])
theorem vi(p:Bool)(w:World):Calls Tryz.prog 42 #[.bool p] w fun e w'=>e=.returned (Fk.u8 (if p then 1 else 0))/\w=w':=by
 cases p with
 | true=>go_enter Tryz.func42, Tryz.ntmps42;go_wp2_with fail;go_ret;exact⟨rfl,rfl⟩
 | false=>go_enter Tryz.func42, Tryz.ntmps42;go_wp2_with fail;go_ret;exact⟨rfl,rfl⟩
theorem JY(m h d q c n:Nat)(p:Bool)(o:UInt8)(w:World)(h1:m<=32768)(R:h<256)(U:d<256)(h4:q<256)(h5:c<=4096)(h6:n<=1000000) :
  Calls Tryz.prog 86 #[aK ⟨(m:Int),p,(h:Int),(d:Int),(q:Int),(c:Int)⟩,Fk.u8 o,N n] w fun e w'=>∃ v,e=.returned v/\Ow w' w.heap.size eB v (ay (iF++[o,UInt8.ofNat h,UInt8.ofNat d,UInt8.ofNat q]++bl 2 c++bl 2 m++bl 4 n))/\Fr w w':=by
 have a3:c<256 ^ 2:=by rw [show(256:Nat) ^ 2=65536 from by decide];omega
 have a4:m<256 ^ 2:=by rw [show(256:Nat) ^ 2=65536 from by decide];omega
 have ba:n<256 ^ 4:=by rw [show(256:Nat) ^ 4=4294967296 from by decide];omega
 have cl:=ad (rP c 2 (by omega) (by omega) a3 (by omega));have cm:=ad (rP m 2 (by omega) (by omega) a4 (by omega));have cn:=ad (rP n 4 (by omega) (by omega) ba (by omega));have co:=ad (jk 2 c);have cp:=ad (jk 2 m);have cs:=ad (jk 4 n);have HP:=ad (fun v q W (R:af W eB v q) (U:q.length<=1000000)=>lQ v q W R U)
 have V:Ow ((w.alloc (.cells #[N m,.bool p,N h,N d,N q,N c] 23)).alloc (.cells #[.int .u8 70,.int .u8 73,.int .u8 82,.int .u8 75,.int .u8 3,Fk.u8 o,.int .u8 (h:Int),.int .u8 (d:Int),.int .u8 (q:Int)] 5)) w.heap.size eB (.slice (some ⟨(w.alloc (.cells #[N m,.bool p,N h,N d,N q,N c] 23)).heap.size,0,none⟩) 9 9) [70,73,82,75,3,o,UInt8.ofNat h,UInt8.ofNat d,UInt8.ofNat q]:=
  iC eB _ _ _ 9 rfl (by show 9 ≤ maxLen; unfold maxLen; omega) (by simp) (by
   show [Value.int .u8 70, .int .u8 73, .int .u8 82, .int .u8 75, .int .u8 3, Fk.u8 o, .int .u8 (h : Int), .int .u8 (d : Int), .int .u8 (q : Int)] = [Fk.u8 70, Fk.u8 73, Fk.u8 82, Fk.u8 75, Fk.u8 3, Fk.u8 o, Fk.u8 (UInt8.ofNat h), Fk.u8 (UInt8.ofNat d), Fk.u8 (UInt8.ofNat q)]
   rw [mX h R, mX d U, mX q h4]; rfl)
 rw [dp]at V;have hO:((w.alloc (.cells #[N m,.bool p,N h,N d,N q,N c] 23)).alloc (.cells #[.int .u8 70,.int .u8 73,.int .u8 82,.int .u8 75,.int .u8 3,Fk.u8 o,.int .u8 (h:Int),.int .u8 (d:Int),.int .u8 (q:Int)] 5)).heap[w.heap.size]? = some (.cells #[N m,.bool p,N h,N d,N q,N c] 23 (0,0)):=by rw [gz _ _ _ (by simp)];exact au _ _ _ rfl
 have bc:Fr w ((w.alloc (.cells #[N m,.bool p,N h,N d,N q,N c] 23)).alloc (.cells #[.int .u8 70,.int .u8 73,.int .u8 82,.int .u8 75,.int .u8 3,Fk.u8 o,.int .u8 (h:Int),.int .u8 (d:Int),.int .u8 (q:Int)] 5)):=((Fr.refl w).alloc _).alloc _;have hE:iF++[o,UInt8.ofNat h,UInt8.ofNat d,UInt8.ofNat q]++bl 2 c++bl 2 m++bl 4 n=[70,73,82,75,3,o,UInt8.ofNat h,UInt8.ofNat d,UInt8.ofNat q]++bl 2 c++bl 2 m++bl 4 n:=rfl;rw [hE];clear hE a3 a4 ba;have h9:[70,73,82,75,3,o,UInt8.ofNat h,UInt8.ofNat d,UInt8.ofNat q].length=9:=rfl;generalize [70,73,82,75,3,o,UInt8.ofNat h,UInt8.ofNat d,UInt8.ofNat q]=L9 at *;have H9:=ad h9;clear h9;generalize bl 2 c=FC at *;generalize bl 2 m=Fq at *;generalize bl 4 n=FN at *;have di:IntKind.u64.wrap (c:Int)=(c:Int):=aX _ (by omega);have dj:IntKind.u64.wrap (m:Int)=(m:Int):=aX _ (by omega);have dk:IntKind.u64.wrap (n:Int)=(n:Int):=aX _ (by omega);have dl:IntKind.u8.wrap (h:Int)=(h:Int):=pX _ (by omega);have dr:IntKind.u8.wrap (d:Int)=(d:Int):=pX _ (by omega);have ds:IntKind.u8.wrap (q:Int)=(q:Int):=pX _ (by omega);generalize hT:ay (L9++FC++Fq++FN)=T at *;have F:=ad hT;clear hT;go_enter Tryz.func86, Tryz.ntmps86;go_wp2_with fail;refine(cl.out _).mono ?_;rintro e w1 ⟨v1,rfl,bx,G⟩;have bz:=G.heap hO;have X:=V.fr G;have b0:=bc.trans G;have x0:=ae bz 0 rfl;clear hO V bc G;go_wp2_with fail;refine(cm.out _).mono ?_;rintro e w2 ⟨v2,rfl,Y,I⟩;have Z:=jH X Y (ag _);have aa:=X.fr I;have b1:=bx.fr I;have b2:=b0.trans I;clear X bx b0 I x0 bz;go_wp2_with fail;refine(cn.out _).mono ?_;rintro e w3 ⟨v3,rfl,J,z⟩;have ab:=jH aa J (ag _);have ac:=aa.fr z;have b3:=b1.fr z;have aj:=Y.fr z;have K:=b2.trans z;clear aa b1 Y b2 z;have l9:=H9.out;have lc:=co.out;have ls:=cp.out;have ln:=cs.out;go_wp2_with (at_builtin;refine aN eB rfl (.tmp 45) (.tmp 46) 29 rfl Tryz.underlying29 _ rfl ac _ _ rfl b3.see ?c1 K.size ?_);case c1=>omega
 intro v5 w5 y;have A:=y.own;have b4:=y.other aj Z;have b5:=y.other J ab;have c8:=y.apart aj Z;have b8:=y.apart J ab;have L:Fr w w5:=y.below ac K (ag _) K.size;obtain⟨q5,av⟩:∃ q,q=L9++FC:=⟨_,rfl⟩;rw [<- av]at A F;have d5:q5.length<=11:=by rw [av,an];omega
 obtain⟨a5,c5,rfl⟩:=A.shape';clear ac b3 aj J K y Z ab av l9 lc;go_wp2_with (at_builtin;refine aN eB rfl (.tmp 48) (.tmp 49) 29 rfl Tryz.underlying29 _ rfl A _ _ rfl b4.see ?c1 L.size ?_);case c1=>omega
 intro v6 w6 M;have D:=M.own;have bB:=M.other b5 b8;have O:Fr w w6:=M.below A L (ag _) L.size;obtain⟨q6,a0⟩:∃ q,q=q5++Fq:=⟨_,rfl⟩;rw [<- a0]at D F;have d9:q6.length<=13:=by rw [a0,an];omega
 obtain⟨a6,c6,rfl⟩:=D.shape';clear A b4 b5 L M c8 b8 a0 ls;go_wp2_with (at_builtin;refine aN eB rfl (.tmp 51) (.tmp 52) 29 rfl Tryz.underlying29 _ rfl D _ _ rfl bB.see ?c1 O.size ?_);case c1=>omega
 intro v7 w7 a1;have Q:=a1.own;have cb:Fr w w7:=a1.below D O (ag _) O.size;obtain⟨q7,a2⟩:∃ q,q=q6++FN:=⟨_,rfl⟩;rw [<- a2]at Q F;have ef:q7.length<=17:=by rw [a2,an];omega
 have cf:=ad (HP.out v7 q7 w7 Q.see (by omega));rw [F.out]at cf;obtain⟨a7,c7,rfl⟩:=Q.shape';clear D bB O a1 a2 ln Q;go_wp2_with fail;refine cf.out.mono ?_;rintro e w8 ⟨v8,rfl,ch,cF⟩;have HR:=ad (ch.rebase cb.size);clear ch;go_wp2_with fail;go_ret;exact⟨_,rfl,HR.out,cb.trans cF⟩
end Go.Proofs.YtdamnfpigajmoaaGreatDoor
