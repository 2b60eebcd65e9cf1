/- Parts of the proof of ArchEnds: Us Ut Uu Uw Ux Uy Uz Vb Va Vc. -/
import Derived.Deep.RegionHeldLaw
import Derived.Test.YtfpijnhhdfoohaaGreatDoorM20
import Derived.Test.YtfpijnhhdfoohaaGreatDoorM26
import Derived.Test.YtfpijnhhdfoohaaGreatDoorM34
import Derived.Test.YtfpijnhhdfoohaaGreatDoorM25
import Derived.Test.YtfpijnhhdfoohaaGreatDoorM12
import Derived.Deep.RegionHeld3
set_option linter.unusedVariables false
set_option linter.unusedSectionVars false
set_option linter.unusedSimpArgs false
set_option maxHeartbeats 8000000
set_option maxRecDepth 100000
namespace Go.Proofs.YtfpijnhhdfoohaaGreatDoor
open Go.RowKit Go.Fk
def yf(q:Nat × Nat × Nat):Value:=.tuple #[if q.2.2=0 then N q.1 else .int .i64 (-1),.int .i64 (q.2.2:Int)]
theorem EJ(m:List UInt8)(base g B K A a:Nat)(c:Nat->Value)(v:Value)(r:List UInt8)(w:World)(h:df w base g m m.length c)(hC:dp w B K v r A a)(hl:r.length<=1000000)(hn:m.length<=300)(Z:cI m=true)(aa:∀ c∈m,c.toNat<=15) :
  Calls Tryz.prog 276 #[.pointer (some ⟨g,0,none⟩),.pointer (some ⟨B,0,none⟩)] w fun e w'=>e=.returned (yf (aE m r a))/\dp w' B K v r A (aE m r a).2.1/\ah (fun b=>b=B) w w':=by
 have HP:=ad (RE B K A a 15 r w hC.f hl (by omega));have HS:=ad (fun W (o:Fr w W) l (a5:a+l<=A)=>QU B K A a l v r W (hC.fr o) hl a5);have HF:=ad (fun W (o:Fr w W) x l z D hx=>Ss m base g x l c W (h.fr o) hn Z aa z D hx);have L:=ad (fun W (o:Fr w W) y l D hy=>Sw m base g y l c W (h.fr o) hn Z aa D hy);have HH:=ad (Nt m r a);have HM:=ad (Ns m r a);have M:=ad (Ll r a);have a6:=ad (nD r a 15);have av:=ad (fun y=>B5 m Z aa y 15 (fun k z D=>absurd z (by omega)));have a7:=hC.eq;have a5:=hC.le;have O:ff r a=min 15 (A - a):=by unfold ff;rw [a7]
 rw [<- O]at HP;have b2:ff r a<=15:=by rw [O];exact Nat.min_le_left _ _
 have b3:ff r a<=A - a:=by rw [O];exact Nat.min_le_right _ _
 have HC:=ad hC;have hX:Fk.aI r a 15<=32768:=by have:=a6.out;omega
 clear h hC O a6 a7;generalize aE m r a=Q at *;generalize Fk.aI r a (ff r a)=Y at *;generalize Fk.aI r a 15=X at *;generalize ff r a=T at *;go_enter Tryz.func276, Tryz.ntmps276;go_wp2_with fail;refine(HP.out).mono ?_;rintro e w1 ⟨rfl,bd⟩;have bf:=bd.fr;clear HP;go_wp2_with fail;go_loopw [8] (fun kv wr=>∃ l:Nat,1<=l/\l<=T+1/\kv=N l/\Hid (∀ j,1<=j->j<l->jM m (X / 2 ^ (15 - j)) j=none)/\Fr w wr) (fun kv _=>16 - (intOf kv).toNat);case atStart=>exact⟨1,by omega,by omega,rfl,(fun j z D=>absurd z (by omega)),bf⟩
 case round=>
  obtain⟨l,z,b5,rfl,I,o⟩:=hrel;by_cases bk:l<=T
  · have bl:IntKind.i64.wrap (15 - (l:Int))=((15 - l:Nat):Int):=(by rw [aw _ (by omega)];omega);have bm:(X:Int) / 2 ^ (15 - l)=((X / 2 ^ (15 - l):Nat):Int):=(by simp);have b6:X / 2 ^ (15 - l)<=X:=lR _ _;have F:=ad (HF.out wr o (X / 2 ^ (15 - l)) l z (by omega) (by omega));have bs:min (15 - l) 64=15 - l:=(by omega);have i1:(l:Int)<=T:=(by omega);have b8:IntKind.i64.wrap ((l:Int)+1)=(l:Int)+1:=aw _ (by omega)
    cases G:jM m (X / 2 ^ (15 - l)) l with
    | some s=>have hQ:=HH.out l s z bk G;rw [G]at F;simp only [yi]at F;have bu:=ad (fun W (h:Fr w W)=>HS.out W h l (by omega));subst hQ;clear G I;generalize 15 - l=d at *;generalize X / 2 ^ d=q at *;go_wp2_with fail;refine(F.out).mono ?_;rintro e R ⟨rfl,rfl⟩;have bv:=ad (bu.out R o);clear F;go_wp2_with fail;refine(bv.out).mono ?_;rintro e w3 ⟨rfl,bx,b0⟩;go_wp2_with fail;go_ret2;exact⟨rfl,bx,(o.chg _).trans b0 fun _ _ h=>h⟩
    | none=>
     rw [G]at F;simp only [yi]at F;have HX:Hid (∀ j,1<=j->j<l+1->jM m (X / 2 ^ (15 - j)) j=none):=fun j z D=>by
      by_cases e:j=l;· rw [e];exact G
      · exact I.out j z (by omega)
     clear G I;generalize 15 - l=d at *;generalize X / 2 ^ d=q at *;go_wp2_with fail;refine(F.out).mono ?_;rintro e R ⟨rfl,rfl⟩;go_wp2_with fail;go_roundw;case rel=>exact⟨l+1,by omega,by omega,by go_num,HX,o⟩
     case measure=>simp [intOf];omega
  · obtain rfl:l=T+1:=(by omega);have hQ:=HM.out (fun j z D=>I.out j z (by omega));have a1:=ad (HC.out.fr o);have i2:¬((T:Int)+1<=T):=(by omega);clear I;by_cases hT:T<15
    · have bl:IntKind.i64.wrap (15 - (T:Int))=((15 - T:Nat):Int):=(by rw [aw _ (by omega)];omega);have bs:min (15 - T) 64=15 - T:=(by omega);have bm:(X:Int) / 2 ^ (15 - T)=(Y:Int):=(by rw [<- M.out];simp);have hY:Y<=X:=(by rw [<- M.out];exact lR _ _);have U:=ad (L.out wr o Y T (by omega) (by omega));have i3:(T:Int)<15:=(by omega);clear M HF HS HH HM av;generalize 15 - T=d at *
      cases V:mP m Y T with
      | true=>rw [V]at U hQ;subst hQ;clear L V;go_wp2_with fail;refine(U.out).mono ?_;rintro e R ⟨rfl,J⟩;go_wp2_with fail;go_ret2;exact⟨rfl,a1.out.fr J.fr,(o.trans J.fr).chg _⟩
      | false=>rw [V]at U hQ;subst hQ;clear L V;go_wp2_with fail;refine(U.out).mono ?_;rintro e R ⟨rfl,J⟩;go_wp2_with fail;go_ret2;exact⟨rfl,a1.out.fr J.fr,(o.trans J.fr).chg _⟩
    · obtain rfl:T=15:=(by omega);rw [av.out Y]at hQ;subst hQ;clear M HF HS HH HM av L;go_wp2_with fail;go_ret2;exact⟨rfl,a1.out,o.chg _⟩
theorem EN(x b:Nat)(w:World)(d:b<=60)(m:x<2 ^ b) :
  Calls Tryz.prog 295 #[N x,N b] w fun e h=>e=.returned (.bool true)/\h=w:=by
 have hD:(2:Nat) ^ b<=2 ^ 60:=ep (by omega) d;have o:IntKind.i64.wrap ((2:Int) ^ b)=((2 ^ b:Nat):Int):=by rw [show(2:Int) ^ b=((2 ^ b:Nat):Int) by simp];exact aw _ (by omega)
 generalize 2 ^ b=D at *;have q:(0:Int)<=x:=by omega
 have z:(x:Int)<D:=by omega
 have A:(0:Int)<=b:=by omega
 go_enter Tryz.func295, Tryz.ntmps295;go_wp2_with fail;go_ret;exact⟨rfl,rfl⟩
theorem wy {T : TypeId} {W : World} {z : Nat} {o q A : Value} (d e m : Value) (h : W.heap[z]? = some (.cells #[o, q, A] T (0, 0))) :
    (((W.setCell ⟨z,0,none⟩ d).setCell ⟨z,1,none⟩ e).setCell ⟨z,2,none⟩ m).heap[z]?=some (.cells #[d,e,m] T (0,0))/\ah (fun k=>k=z) W (((W.setCell ⟨z,0,none⟩ d).setCell ⟨z,1,none⟩ e).setCell ⟨z,2,none⟩ m):=
  ⟨a8 (a8 (a8 h 0 d) 1 e) 2 m,((ao W ⟨z,0,none⟩ d).trans (ao _ ⟨z,1,none⟩ e) fun _ _ h=>h).trans (ao _ ⟨z,2,none⟩ m) fun _ _ h=>h⟩
theorem Sf(m o d q:Nat)(w:World)(h1:257<=m)(h2:m<265)(h3:d<12)(G:o<2 ^ (m - 257))(L:q<2 ^ d) :
  Calls Tryz.prog 293 #[.agg #[N m,N o,N d,N q]] w fun e w'=>e=.returned (.tuple #[lX ⟨0,2+2 ^ (m - 257)+o,2 ^ d+q⟩,.int .i64 0])/\Fr w w':=by
 obtain⟨b,M⟩:∃ b,b=m - 257:=⟨_,rfl⟩;have bd:IntKind.i64.wrap ((m:Int) - 257)=(b:Int):=by rw [aw _ (by omega)];omega
 rw [<- M]at G ⊢;have O:=ad (fun W=>EN o b W (by omega) G);have Q:=ad (fun W=>EN q d W (by omega) L);have p1:(2:Nat) ^ b<=2 ^ 8:=ep (by omega) (by omega);have p2:(2:Nat) ^ d<=2 ^ 12:=ep (by omega) (by omega);have bf:IntKind.i64.wrap ((2:Int) ^ b)=((2 ^ b:Nat):Int):=by rw [show(2:Int) ^ b=((2 ^ b:Nat):Int) by simp];exact aw _ (by omega)
 have bk:IntKind.i64.wrap ((2:Int) ^ d)=((2 ^ d:Nat):Int):=by rw [show(2:Int) ^ d=((2 ^ d:Nat):Int) by simp];exact aw _ (by omega)
 generalize 2 ^ b=D at *;generalize 2 ^ d=E at *;have bl:IntKind.i64.wrap (2+(D:Int))=2+(D:Int):=aw _ (by omega);have bm:IntKind.i64.wrap (2+(D:Int)+o)=2+(D:Int)+o:=aw _ (by omega);have bs:IntKind.i64.wrap ((E:Int)+q)=(E:Int)+q:=aw _ (by omega);have j1:(0:Int)<=m:=by omega
 have j2:¬(m:Int)<256:=by omega
 have j3:(257:Int)<=m:=by omega
 have j4:(m:Int)<265:=by omega
 have j5:(0:Int)<=d:=by omega
 have j6:(d:Int)<12:=by omega
 have j7:(0:Int)<=b:=by omega
 have b4:min b 64=b:=by omega
 have b5:min d 64=d:=by omega
 have R:Fr w (w.alloc (.cells #[N m,N o,N d,N q] 276)):=(Fr.refl w).alloc _;have U:(w.alloc (.cells #[N m,N o,N d,N q] 276)).heap[w.heap.size]?=some (.cells #[N m,N o,N d,N q] 276 (0,0)):=a9 _ _ _ rfl;have I:Fr (w.alloc (.cells #[N m,N o,N d,N q] 276)) ((w.alloc (.cells #[N m,N o,N d,N q] 276)).alloc (.cells #[.int .u8 0,.int .i64 0,.int .i64 0] 212)):=(Fr.refl _).alloc _;have V:((w.alloc (.cells #[N m,N o,N d,N q] 276)).alloc (.cells #[.int .u8 0,.int .i64 0,.int .i64 0] 212)).heap[w.heap.size+1]?=some (.cells #[.int .u8 0,.int .i64 0,.int .i64 0] 212 (0,0)):=a9 _ _ (w.heap.size+1) (by rw [eg]);have B:=I.heap U;have X:=R.trans I;clear R I U M G L h1 h2 h3 p1 p2;go_enter Tryz.func293, Tryz.ntmps293;go_upto_region 1 with fail;generalize (w.alloc (.cells #[N m,N o,N d,N q] 276)).alloc (.cells #[.int .u8 0,.int .i64 0,.int .i64 0] 212)=Y at *;have e0:=af B 0 rfl;have e1:=af B 1 rfl;have e2:=af B 2 rfl;have e3:=af B 3 rfl;have Z:=ad (O.out Y);have aa:=ad (Q.out Y);have HT:=ad V;have HF:=ad X;clear O Q B V X;go_upto_region 6 with fail;go_wp2_with fail;refine(Z.out).mono ?_;rintro e w4 ⟨rfl,rfl⟩;go_wp2_with fail;refine(aa.out).mono ?_;rintro e w4 ⟨rfl,rfl⟩;go_upto_region 7 with fail;have z:w4.drew.heap[w.heap.size+1]?=some (.cells #[.int .u8 0,.int .i64 0,.int .i64 0] 212 (0,0)):=HT.out;have J:Fr w w4.drew:=HF.out.drew;go_still_tail 13,(by kernel_rfl);change wpList _ _ _ _ _ w4.drew;have x0:=al z 0;have x1:=al z 1;have x2:=al z 2;have y0:=af z 0 rfl;have y1:=af z 1 rfl;have y2:=af z 2 rfl;clear HT HF e0 e1 e2 e3 Z aa;generalize w4.drew=W5 at *;have KZ := ad (fun F (h : F = ((W5.setCell ⟨w.heap.size + 1, 0, none⟩ (.int .u8 0)).setCell ⟨w.heap.size + 1, 1, none⟩ (.int .i64 (2 + (D : Int) + o))).setCell ⟨w.heap.size + 1, 2, none⟩ (.int .i64 ((E : Int) + q))) => by
  have K := wy (.int .u8 0) (.int .i64 (2 + (D : Int) + o)) (.int .i64 ((E : Int) + q)) z;rw [← h] at K
  exact (⟨K.1, ah.below J K.2 J.size (fun i e => by rw [show i = w.heap.size + 1 from e]; omega)⟩ : F.heap[w.heap.size + 1]? = some (.cells #[.int .u8 0, .int .i64 (2 + (D : Int) + o), .int .i64 ((E : Int) + q)] 212 (0, 0)) ∧ Fr w F))
 have ba:(Tryz.prog.info? 212).map (·.size)=some 3:=by kernel_rfl
 clear z J;go_wp2_with fail;generalize hW:((W5.setCell ⟨w.heap.size+1,0,none⟩ (.int .u8 0)).setCell ⟨w.heap.size+1,1,none⟩ (.int .i64 (2+(D:Int)+o))).setCell ⟨w.heap.size+1,2,none⟩ (.int .i64 ((E:Int)+q))=F;obtain⟨bb,bc⟩:=KZ.out F hW.symm;clear hW KZ;refine aL (v:=.tuple #[.agg #[.int .u8 0,.int .i64 (2+(D:Int)+o),.int .i64 ((E:Int)+q)],.int .i64 0]) (n6 Tryz.results293 _ _ (w.heap.size+1) 212 _ (0,0) _ _ rfl rfl bb Tryz.underlying212 rfl ba) rfl ?_;exact⟨rfl,bc⟩
end Go.Proofs.YtfpijnhhdfoohaaGreatDoor
namespace Go.Fk
theorem so(d r:List UInt8)(a:Nat)(h:(aE d r a).2.2=0):(aE d r a).1<d.length:=by
 unfold aE at h ⊢;cases e:mX d (aI r a 15) (ff r a)with
 | some s=>unfold mX at e;have:=List.mem_of_find?_eq_some e;simpa using this
 | none=>rw [e]at h;simp at h;split at h <;> cases h
end Go.Fk
namespace Go.Proofs.YtfpijnhhdfoohaaGreatDoor
open Go.RowKit Go.Fk
theorem df.rd{w m:World}{base g n B:Nat}{a:List UInt8}{c:Nat->Value}(h:df w base g a n c)(A:B<base)(o:ah (fun k=>k=B) w m):df m base g a n c:=
 h.chg o (fun e=>by have:=h.up;omega) (fun k d e=>by have:=(h.own0.lt k d).1;omega) (fun k d e=>by have:=(h.own1.lt k d).1;omega) (fun l q z k d e=>by have:=((h.syms l q z).lt k d).1;omega)
def sY(n:Nat)(L:List UInt8):Prop:=L.length=n/\cI L=true/\∀ c∈L,c.toNat<=15
theorem Ew(R B o q a n:Nat)(s1 s2 v:Value)(r:List UInt8)(w:World)(K:w.heap[R]?=some (.cells #[.pointer (some ⟨B,0,none⟩),s1,s2] 373 (0,0)))(hC:dp w B o v r q a)(hl:r.length<=1000000)(M:n<=300) :
  Calls Tryz.prog 257 #[.pointer (some ⟨R, 0, none⟩), N n] w fun e A => ah (fun b => b = B) w A ∧ ((¬ (bi r n a).2.2 = 0 ∧ e = .returned (.tuple #[.pointer none, .int .i64 ((bi r n a).2.2 : Int)])) ∨
   ((bi r n a).2.2 = 0 ∧ ∃ g c b, e = .returned (.tuple #[.pointer (some ⟨g, 0, none⟩), .int .i64 0]) ∧ w.heap.size ≤ b ∧ df A b g (bi r n a).1 (bi r n a).1.length c ∧ dp A B o v r q (bi r n a).2.1 ∧ sY n (bi r n a).1)) := by
 have D:=ad (S4 B o q a n v r w hC hl M);have c0:=af K 0 rfl;clear hC K;generalize bi r n a=Q at *;obtain⟨L,a',O⟩:=Q;by_cases U:O=0;· subst U;go_enter Tryz.func257, Tryz.ntmps257;go_wp2_with fail;refine(D.out).mono ?_;rintro e V ⟨u,rfl,d,m,X⟩;obtain⟨Y,F,G,I⟩:=X trivial;have HN:=ad (EI u L V d.see (by rw [F];exact M) I G);have Z:=ad Y;have HG:Hid (sY n L):=⟨F,G,I⟩;obtain⟨p,z,rfl⟩:=d.shape';have ab:=m.size;clear Y F G I X d D;go_wp2_with fail;refine(HN.out).mono ?_;rintro e w2 ⟨g,c,rfl,hH,J⟩;go_wp2_with fail;go_ret2;exact⟨m.trans (J.chg _) fun _ _ h=>h,(by first | exact .inr ⟨trivial,g,c,_,rfl,ab,hH,Z.out.fr J,HG.out⟩ | exact⟨g,c,⟨rfl,rfl⟩,_,ab,hH,Z.out.fr J,HG.out⟩)⟩
 · have j1:¬(O:Int)=0:=(by omega);go_enter Tryz.func257, Tryz.ntmps257;go_wp2_with fail;refine(D.out).mono ?_;rintro e V ⟨u,rfl,d,m,_⟩;obtain⟨p,z,rfl⟩:=d.shape';go_wp2_with fail;go_ret2;exact⟨m,.inl ⟨U,rfl⟩⟩
def Ad(q:aW × Nat × Nat):Value:=.tuple #[lX q.1,.int .i64 (q.2.2:Int)]
theorem QO(R B bb q a z bf gf:Nat)(s1 v:Value)(cf:Nat->Value)(m r:List UInt8)(w:World)(hR:w.heap[R]?=some (.cells #[.pointer (some ⟨B,0,none⟩),s1,.pointer (some ⟨gf,0,none⟩)] 373 (0,0)))(hC:dp w B bb v r q a)(hl:r.length<=1000000)
  (hH:df w bf gf m m.length cf) (hG:sY 12 m) (hB:B<bf) (hRB:R≠B) (h1:257<=z) (h2:z<265) :
  Calls Tryz.prog 277 #[.pointer (some ⟨R,0,none⟩),N z] w fun e w'=>e=.returned (Ad (cY m r z a))/\ah (fun b=>b=B) w w'/\((cY m r z a).2.2=0->dp w' B bb v r q (cY m r z a).2.1):=by
 obtain⟨b,hb⟩:∃ b,b=z - 257:=⟨_,rfl⟩;have dE:IntKind.i64.wrap ((z:Int) - 257)=(b:Int):=by rw [aw _ (by omega)];omega
 have dT:b<=7:=by omega
 have a4:=hC.eq;have KA:Hid (q<a+b->cY m r z a=(⟨0,0,0⟩,a,1)):=fun h=>by unfold cY;rw [<- a4,<- hb,ag h]
 have KB:Hid (¬q<a+b->¬(aE m r (a+b)).2.2=0->cY m r z a=(⟨0,0,0⟩,a,(aE m r (a+b)).2.2)):=fun h h2=>by unfold cY;rw [<- a4,<- hb,ae h,ae h2]
 have KC:Hid (¬q<a+b->(aE m r (a+b)).2.2=0->q<(aE m r (a+b)).2.1+(aE m r (a+b)).1->cY m r z a=(⟨0,0,0⟩,a,1)):=fun h h2 h3=>by unfold cY;rw [<- a4,<- hb,ae h,ag h2,ag h3]
 have KD:Hid (¬q<a+b->(aE m r (a+b)).2.2=0->¬q<(aE m r (a+b)).2.1+(aE m r (a+b)).1->cY m r z a=(⟨0,2+2 ^ b+Fk.aI r a b,2 ^ (aE m r (a+b)).1+Fk.aI r (aE m r (a+b)).2.1 (aE m r (a+b)).1⟩,(aE m r (a+b)).2.1+(aE m r (a+b)).1,0)):=fun h h2 h3=>by unfold cY;rw [<- a4,<- hb,ae h,ag h2,ae h3]
 have cN:=ad (fun h=>(so m r (a+b) h));have c1:=ad (fun a k W (h:dp W B bb v r q a) hk=>EM B bb q a k v r W h hl hk);have bc:=ad (fun W (h:df W bf gf m m.length cf) (hc:dp W B bb v r q (a+b))=>EJ m bf gf B bb q (a+b) cf v r W h hc hl (by rw [hG.1];omega) hG.2.1 hG.2.2);have HJ:=ad (fun c3 d W (h3:d<12) (hx:Fk.aI r a b<2 ^ b) (hf:c3<2 ^ d)=>Sf z (Fk.aI r a b) d c3 W h1 h2 h3 (by rw [<- hb];exact hx) hf);rw [<- hb]at HJ;have b8:=ad (fun a k=>nD r a k);have cT:Hid (m.length=12):=hG.1;have ec:B<w.heap.size:=(aM.1 hC.h).1;have da:∀ k,v.ownBlock=some k->k<w.heap.size:=fun k h=>(hC.o.lt k h).2;have ef:R<w.heap.size:=(aM.1 hR).1;have av:Fr w (w.alloc (.cells #[.int .u8 0,.int .i64 0,.int .i64 0] 212)):=(Fr.refl w).alloc _;have bu:(w.alloc (.cells #[.int .u8 0,.int .i64 0,.int .i64 0] 212)).heap[w.heap.size]?=some (.cells #[.int .u8 0,.int .i64 0,.int .i64 0] 212 (0,0)):=a9 _ _ _ rfl;have bv:=av.heap hR;have ii:=hC.fr av;have b9:=hH.fr av;have a0:w.heap.size≠B:=by omega
 have bx:(Tryz.prog.info? 212).map (·.size)=some 3:=by kernel_rfl
 have V : Hid (∀ (W o : World) (t : aW), W.heap[w.heap.size]? = some (.cells #[.int .u8 0, .int .i64 0, .int .i64 0] 212 (0, 0)) → ah (fun b => b = B) w W → o = ((W.setCell ⟨w.heap.size, 0, none⟩ (.int .u8 (t.lit.toNat : Int))).setCell ⟨w.heap.size, 1, none⟩ (N t.len)).setCell ⟨w.heap.size, 2, none⟩ (N t.dist) →
   o.heap[w.heap.size]? = some (.cells #[.int .u8 (t.lit.toNat : Int), N t.len, N t.dist] 212 (0, 0)) ∧ ah (fun b => b = B) w o ∧ ah (fun b => b = w.heap.size) W o) := fun W o t h hc e => by
  have F:=wy (.int .u8 (t.lit.toNat:Int)) (N t.len) (N t.dist) h
  rw [<- e]at F
  exact⟨F.1,hc.trans F.2 fun i hi e=>by have e:i=w.heap.size:=e;omega,F.2⟩
 clear a4 hC hR hH hG hb;generalize cY m r z a=Q at *;go_enter Tryz.func277, Tryz.ntmps277;go_upto_region 1 with fail;generalize w.alloc (.cells #[.int .u8 0,.int .i64 0,.int .i64 0] 212)=W0 at *;have bd:=ad (c1.out a b W0 ii (by omega));have c0:=af bv 0 rfl;have c4:=ad ii;clear ii;by_cases F:q<a+b;· simp only [ag F]at bd;have hQ:=KA.out F;subst hQ;clear KA KB KC KD bc HJ;go_wp2_with fail;refine(bd.out).mono ?_;rintro e I ⟨rfl,bA,X⟩;have J:=X.heap bu a0;have b0:ah (fun b=>b=B) w I:=(av.chg _).trans X fun _ _ h=>h;clear bu bv c4 b9;have x0:=al J 0;have x1:=al J 1;have x2:=al J 2;have y0:=af J 0 rfl;have y1:=af J 1 rfl;have y2:=af J 2 rfl;have K:=ad (fun o=>V.out I o ⟨0,0,0⟩ J b0);clear V J;go_wp2_with fail;generalize L:((I.setCell ⟨w.heap.size,0,none⟩ (.int .u8 0)).setCell ⟨w.heap.size,1,none⟩ (.int .i64 0)).setCell ⟨w.heap.size,2,none⟩ (.int .i64 0)=o;obtain⟨ak,Y,_⟩:=K.out o L.symm;clear L K;refine aL (v:=.tuple #[.agg #[.int .u8 0,.int .i64 0,.int .i64 0],.int .i64 1]) (n6 Tryz.results277 _ _ w.heap.size 212 _ (0,0) _ _ rfl rfl ak Tryz.underlying212 rfl bx) rfl ?_;exact⟨rfl,Y⟩
 · simp only [ae F]at bd;have hx:=b8.out a b;generalize aE m r (a+b)=G at *;obtain⟨s,O,e2⟩:=G;simp only [yf]at bc;obtain⟨CV,cc⟩:∃ CV,CV=(if e2=0 then N s else .int .i64 (-1)):=⟨_,rfl⟩;rw [<- cc]at bc;have dj:Hid (e2=0->CV=N s):=fun h=>(by rw [cc,ag h]);clear cc;go_wp2_with fail;refine(bd.out).mono ?_;rintro e I ⟨rfl,bA,X⟩;have J:=X.heap bu a0;have bk:=X.heap bv hRB;have c5:=b9.rd hB X;have b0:ah (fun b=>b=B) w I:=(av.chg _).trans X fun _ _ h=>h;have c6:=ad (bc.out I.drew (c5.fr (Fr.refl I).drew) (bA.fr (Fr.refl I).drew));have c7:I.drew.heap[R]?=some (.cells #[.pointer (some ⟨B,0,none⟩),s1,.pointer (some ⟨gf,0,none⟩)] 373 (0,0)):=bk;have d0:=af bk 0 rfl;have d2:=af bk 2 rfl;clear bd c4 b9 bv bu bA X c0 bc c5 av;go_upto_region 4 with fail;go_cut [8,7]from 24 to 35 (fun cv ev wx=>cv=CV/\ev=.int .i64 (e2:Int)/\dp wx B bb v r q O/\ah (fun b=>b=B) I wx)
   case first=>
    go_region_held3 (fun W => W.cell? ⟨R, 0, none⟩ = some (.pointer (some ⟨B, 0, none⟩)) ∧ W.cell? ⟨R, 2, none⟩ = some (.pointer (some ⟨gf, 0, none⟩)))
     (first | go_keep)
     ((first
      | (go_at_call 276; refine c6.out.mono ?_; rintro e w3 ⟨rfl, a3, Z⟩; have g0 : w3.cell? ⟨R, 0, none⟩ = some (.pointer (some ⟨B, 0, none⟩)) := aA (Z.heap c7 hRB) 0; have g2 : w3.cell? ⟨R, 2, none⟩ = some (.pointer (some ⟨gf, 0, none⟩)) := aA (Z.heap c7 hRB) 2)))
    all_goals go_wp2_with fail
    all_goals go_meet
    all_goals exact⟨rfl,rfl,a3,((Fr.refl I).drew.chg _).trans Z fun _ _ h=>h⟩
   case rest=>
    obtain⟨rfl,rfl,a3,Z⟩:=hcut;have D:=Z.heap J a0;have cA:=Z.heap bk hRB;have ch:ah (fun b=>b=B) w wc:=b0.trans Z fun _ _ h=>h;have f0:=af cA 0 rfl;clear J bk d0 d2 Z b0 c6 cA;by_cases he:e2=0
    · subst he;obtain rfl:=dj.out rfl;have cB:s<m.length:=cN.out rfl;rw [cT.out]at cB;have b2:=ad (c1.out O s wc a3 (by omega));by_cases h4:q<O+s;· simp only [ag h4]at b2;have hQ:=KC.out F rfl h4;subst hQ;clear KA KB KC KD HJ a3;go_wp2_with fail;refine(b2.out).mono ?_;rintro e w4 ⟨rfl,ck,bl⟩;have M:=bl.heap D a0;have cl:=ch.trans bl fun _ _ h=>h;clear D;have x0:=al M 0;have x1:=al M 1;have x2:=al M 2;have y0:=af M 0 rfl;have y1:=af M 1 rfl;have y2:=af M 2 rfl;have K:=ad (fun o=>V.out w4 o ⟨0,0,0⟩ M cl);clear V M;go_wp2_with fail;generalize L:((w4.setCell ⟨w.heap.size,0,none⟩ (.int .u8 0)).setCell ⟨w.heap.size,1,none⟩ (.int .i64 0)).setCell ⟨w.heap.size,2,none⟩ (.int .i64 0)=o;obtain⟨ak,Y,cm⟩:=K.out o L.symm;clear L K;refine aL (v:=.tuple #[.agg #[.int .u8 0,.int .i64 0,.int .i64 0],.int .i64 1]) (n6 Tryz.results277 _ _ w.heap.size 212 _ (0,0) _ _ rfl rfl ak Tryz.underlying212 rfl bx) rfl ?_;exact⟨rfl,Y⟩
      · simp only [ae h4]at b2;have hQ:=KD.out F rfl h4;have hy:=b8.out O s;have cF:=ad (fun W=>HJ.out (Fk.aI r O s) s W cB hx hy);have p1:(2:Nat) ^ b<=2 ^ 7:=ep (by omega) (by omega);have p2:(2:Nat) ^ s<=2 ^ 12:=ep (by omega) (by omega);have e1:IntKind.i64.wrap ((Fk.aI r a b:Nat):Int)=((Fk.aI r a b:Nat):Int):=aw _ (by omega);have e3:IntKind.i64.wrap ((Fk.aI r O s:Nat):Int)=((Fk.aI r O s:Nat):Int):=aw _ (by omega);have HQ:=ad (And.intro hQ trivial);clear KA KB KC KD HJ a3 hx hy p1 p2 b8 hQ;generalize 2 ^ s+Fk.aI r O s=L2 at *;generalize 2+2 ^ b+Fk.aI r a b=L1 at *;generalize Fk.aI r O s=y at *;generalize Fk.aI r a b=x at *;go_wp2_with fail;refine(b2.out).mono ?_;rintro e w4 ⟨rfl,ck,bl⟩;have M:=bl.heap D a0;have cl:=ch.trans bl fun _ _ h=>h;have d6:=ad (cF.out w4);clear D cF;go_wp2_with fail;refine(d6.out).mono ?_;rintro e w5 ⟨rfl,cq⟩;have aa:=cq.heap M;have cL:=ck.fr cq;have d7:=cl.trans (cq.chg (fun b=>b=B)) fun _ _ h=>h;clear M ck;have x0:=al aa 0;have x1:=al aa 1;have x2:=al aa 2;have y0:=af aa 0 rfl;have y1:=af aa 1 rfl;have y2:=af aa 2 rfl;have K:=ad (fun o=>V.out w5 o ⟨0,L1,L2⟩ aa d7);clear V aa;have d8:=ad cL;clear cL;go_wp2_with fail;generalize L:((w5.setCell ⟨w.heap.size,0,none⟩ (.int .u8 0)).setCell ⟨w.heap.size,1,none⟩ (N L1)).setCell ⟨w.heap.size,2,none⟩ (N L2)=o;obtain⟨ak,Y,cm⟩:=K.out o L.symm;clear L K;refine aL (v:=.tuple #[.agg #[.int .u8 0,N L1,N L2],.int .i64 0]) (n6 Tryz.results277 _ _ w.heap.size 212 _ (0,0) _ _ rfl rfl ak Tryz.underlying212 rfl bx) rfl ?_;have d9:=d8.out.chg cm (fun e=>a0 e.symm) (fun k hk e=>by have:=da k hk;omega);rw [HQ.out.1];exact⟨rfl,Y,fun _=>d9⟩
    · have hQ:=KB.out F he;have j1:¬(e2:Int)=0:=(by omega);subst hQ;clear KA KB KC KD HJ a3;have x0:=al D 0;have x1:=al D 1;have x2:=al D 2;have y0:=af D 0 rfl;have y1:=af D 1 rfl;have y2:=af D 2 rfl;have K:=ad (fun o=>V.out wc o ⟨0,0,0⟩ D ch);clear V D;go_wp2_with fail;generalize L:((wc.setCell ⟨w.heap.size,0,none⟩ (.int .u8 0)).setCell ⟨w.heap.size,1,none⟩ (.int .i64 0)).setCell ⟨w.heap.size,2,none⟩ (.int .i64 0)=o;obtain⟨ak,Y,cm⟩:=K.out o L.symm;clear L K;refine aL (v:=.tuple #[.agg #[.int .u8 0,.int .i64 0,.int .i64 0],.int .i64 (e2:Int)]) (n6 Tryz.results277 _ _ w.heap.size 212 _ (0,0) _ _ rfl rfl ak Tryz.underlying212 rfl bx) rfl ?_;exact(by first | exact⟨rfl,Y,fun h=>absurd h he⟩ | exact⟨rfl,Y⟩ | trace_state)
end Go.Proofs.YtfpijnhhdfoohaaGreatDoor
namespace Go.Fk
def bH(d e r:List UInt8)(a:Nat):aW × Bool × Nat × Nat:=
 if (aE d r a).2.2 = 0 then
  (if (aE d r a).1 = 256 then (⟨0, 0, 0⟩, false, (aE d r a).2.1, 0)
   else if (aE d r a).1 < 256 then (⟨UInt8.ofNat (aE d r a).1, 0, 0⟩, true, (aE d r a).2.1, 0)
   else ((cY e r (aE d r a).1 (aE d r a).2.1).1, decide ((cY e r (aE d r a).1 (aE d r a).2.1).2.2 = 0), (cY e r (aE d r a).1 (aE d r a).2.1).2.1, (cY e r (aE d r a).1 (aE d r a).2.1).2.2))
 else(⟨0,0,0⟩,false,a,(aE d r a).2.2)
end Go.Fk
namespace Go.Proofs.YtfpijnhhdfoohaaGreatDoor
open Go.RowKit Go.Fk
def uq(q:aW × Bool × Nat × Nat):Value:=.tuple #[lX q.1,.bool q.2.1,.int .i64 (q.2.2.2:Int)]
theorem mM{P:Program}{A:Func}{p q o:Tmp}{e:TypeId}(h:A.results=#[.cell p e,.tmp q,.tmp o])(tmps:Array Value)(w:World)(g:Nat)(t:TypeId)(m:Array Value)(B:Nat × Nat)(d:TypeDesc)(v z:Value)
  (hp:tmps.getD p undef=.pointer (some ⟨g,0,none⟩)) (hq:tmps.getD q undef=v) (hq2:tmps.getD o undef=z) (hg:w.heap[g]?=some (.cells m t B))
  (hu:P.underlying e=some d) (hd:(match d with | .struct _ | .array _ _=>true | _=>false)=true) (hi:(P.info? e).map (·.size)=some m.size) :
  (results A tmps).run P w=.ok (.tuple #[.agg m,v,z]) w:=by
 have D:tmps[p]?.getD undef=.pointer (some ⟨g,0,none⟩):=by simpa using hp
 have F:tmps[q]?.getD undef=v:=by simpa using hq
 have G:tmps[o]?.getD undef=z:=by simpa using hq2
 simp [results,h,D,F,G,asAddr,rq w g t e m B d hg hu hd hi]
theorem QL(R B V X a bs K bf gf:Nat)(v:Value)(cs cf:Nat->Value)(d z r:List UInt8)(w:World)(hR:w.heap[R]?=some (.cells #[.pointer (some ⟨B,0,none⟩),.pointer (some ⟨K,0,none⟩),.pointer (some ⟨gf,0,none⟩)] 373 (0,0)))(hC:dp w B V v r X a)(hl:r.length<=1000000)
  (hS:df w bs K d d.length cs) (hGs:sY 265 d) (hBs:B<bs) (hH:df w bf gf z z.length cf) (hG:sY 12 z) (hB:B<bf) (hRB:R≠B) :
  Calls Tryz.prog 258 #[.pointer (some ⟨R,0,none⟩)] w fun e w'=>e=.returned (uq (bH d z r a))/\ah (fun b=>b=B) w w'/\((bH d z r a).2.2.2=0->dp w' B V v r X (bH d z r a).2.2.1):=by
 have KA:Hid (¬(aE d r a).2.2=0->bH d z r a=(⟨0,0,0⟩,false,a,(aE d r a).2.2)):=fun h=>by unfold bH;rw [ae h]
 have KB:Hid ((aE d r a).2.2=0->(aE d r a).1=256->bH d z r a=(⟨0,0,0⟩,false,(aE d r a).2.1,0)):=fun h h2=>by unfold bH;rw [ag h,ag h2]
 have KC:Hid ((aE d r a).2.2=0->(aE d r a).1<256->bH d z r a=(⟨UInt8.ofNat (aE d r a).1,0,0⟩,true,(aE d r a).2.1,0)):=fun h h2=>by unfold bH;rw [ag h,ae (by omega),ag h2]
 have KD:Hid ((aE d r a).2.2=0->257<=(aE d r a).1->bH d z r a=((cY z r (aE d r a).1 (aE d r a).2.1).1,decide ((cY z r (aE d r a).1 (aE d r a).2.1).2.2=0),(cY z r (aE d r a).1 (aE d r a).2.1).2.1,(cY z r (aE d r a).1 (aE d r a).2.1).2.2)):=fun h h2=>by unfold bH;rw [ag h,ae (by omega),ae (by omega)]
 have cq:=ad (fun h=>so d r a h);have HL:Hid (d.length=265):=hGs.1;have cu:=ad (fun W (h:df W bs K d d.length cs) (hc:dp W B V v r X a)=>EJ d bs K B V X a cs v r W h hc hl (by rw [hGs.1];omega) hGs.2.1 hGs.2.2);have bk:=ad (fun cG a W (h:W.heap[R]?=some (.cells #[.pointer (some ⟨B,0,none⟩),.pointer (some ⟨K,0,none⟩),.pointer (some ⟨gf,0,none⟩)] 373 (0,0))) (hc:dp W B V v r X a) (hh:df W bf gf z z.length cf) h1 h2=>QO R B V X a cG bf gf _ v cf z r W h hc hl hh hG hB hRB h1 h2);have b1:∀ k,v.ownBlock=some k->k<w.heap.size:=fun k h=>(hC.o.lt k h).2;have d5:B<w.heap.size:=(aM.1 hC.h).1;have ac:Fr w (w.alloc (.cells #[.int .u8 0,.int .i64 0,.int .i64 0] 212)):=(Fr.refl w).alloc _;have c0:(w.alloc (.cells #[.int .u8 0,.int .i64 0,.int .i64 0] 212)).heap[w.heap.size]?=some (.cells #[.int .u8 0,.int .i64 0,.int .i64 0] 212 (0,0)):=a9 _ _ _ rfl;have bl:=ac.heap hR;have c1:=hH.fr ac;have b2:=ad (cu.out (w.alloc (.cells #[.int .u8 0,.int .i64 0,.int .i64 0] 212)).drew (hS.fr ac.drew) (hC.fr ac.drew));have aj:w.heap.size≠B:=by omega
 have bm:(Tryz.prog.info? 212).map (·.size)=some 3:=by kernel_rfl
 have HZ : Hid (∀ (W o : World) (t0 t1 t2 u0 u1 u2 : Value), W.heap[w.heap.size]? = some (.cells #[u0, u1, u2] 212 (0, 0)) → ah (fun b => b = B) w W → o = ((W.setCell ⟨w.heap.size, 0, none⟩ t0).setCell ⟨w.heap.size, 1, none⟩ t1).setCell ⟨w.heap.size, 2, none⟩ t2 →
   o.heap[w.heap.size]? = some (.cells #[t0, t1, t2] 212 (0, 0)) ∧ ah (fun b => b = B) w o ∧ ah (fun b => b = w.heap.size) W o) := fun W o t0 t1 t2 u0 u1 u2 h hc e => by
  have hs:=wy t0 t1 t2 h
  rw [<- e]at hs
  exact⟨hs.1,hc.trans hs.2 fun i hi e=>by have e:i=w.heap.size:=e;omega,hs.2⟩
 clear hC hR hH hS hG hGs cu;generalize bH d z r a=Q at *;generalize aE d r a=G at *;obtain⟨s,a2,Y⟩:=G;simp only [yf]at b2;obtain⟨CV,bR⟩:∃ CV,CV=(if Y=0 then N s else .int .i64 (-1)):=⟨_,rfl⟩;rw [<- bR]at b2;have cR:Hid (Y=0->CV=N s):=fun h=>by rw [bR,ag h]
 clear bR;go_enter Tryz.func258, Tryz.ntmps258;go_upto_region 1 with fail;generalize w.alloc (.cells #[.int .u8 0,.int .i64 0,.int .i64 0] 212)=W0 at *;have d0:=af bl 0 rfl;have d1:=af bl 1 rfl;have ca:W0.drew.heap[R]?=some (.cells #[.pointer (some ⟨B,0,none⟩),.pointer (some ⟨K,0,none⟩),.pointer (some ⟨gf,0,none⟩)] 373 (0,0)):=bl;go_cut [5,4]from 6 to 17 (fun cv ev wx=>cv=CV/\ev=.int .i64 (Y:Int)/\dp wx B V v r X a2/\ah (fun b=>b=B) W0 wx)
 case first=>
  go_region_held3 (fun W => W.cell? ⟨R, 0, none⟩ = some (.pointer (some ⟨B, 0, none⟩)) ∧ W.cell? ⟨R, 1, none⟩ = some (.pointer (some ⟨K, 0, none⟩)))
   (first | go_keep)
   ((first
    | (go_at_call 276; refine b2.out.mono ?_; rintro e w3 ⟨rfl, I, J⟩; have g0 : w3.cell? ⟨R, 0, none⟩ = some (.pointer (some ⟨B, 0, none⟩)) := aA (J.heap ca hRB) 0; have g1 : w3.cell? ⟨R, 1, none⟩ = some (.pointer (some ⟨K, 0, none⟩)) := aA (J.heap ca hRB) 1)))
  all_goals go_wp2_with fail
  all_goals go_meet
  all_goals exact⟨rfl,rfl,I,((Fr.refl W0).drew.chg _).trans J fun _ _ h=>h⟩
 case rest=>
  obtain⟨rfl,rfl,I,J⟩:=hcut;have m:=J.heap c0 aj;have bu:=J.heap bl hRB;have bv:=c1.rd hB J;have b8:ah (fun b=>b=B) w wc:=(ac.chg _).trans J fun _ _ h=>h;clear c0 bl c1 J d0 d1 ca b2 ac;by_cases he:Y=0
  · subst he;obtain rfl:=cR.out rfl;by_cases c8:s=256;· subst c8;have L:=ad (And.intro (KB.out rfl rfl) trivial);have cc:=ad I;clear KA KB KC KD bk I bu bv;have x0:=al m 0;have x1:=al m 1;have x2:=al m 2;have y0:=af m 0 rfl;have y1:=af m 1 rfl;have y2:=af m 2 rfl;have D:=ad (fun o=>HZ.out wc o (.int .u8 0) (.int .i64 0) (.int .i64 0) _ _ _ m b8);clear m;go_wp2_with fail;generalize F:((wc.setCell ⟨w.heap.size,0,none⟩ (.int .u8 0)).setCell ⟨w.heap.size,1,none⟩ (.int .i64 0)).setCell ⟨w.heap.size,2,none⟩ (.int .i64 0)=o;obtain⟨q,O,a6⟩:=D.out o F.symm;clear F D;refine aL (v:=.tuple #[.agg #[.int .u8 0,.int .i64 0,.int .i64 0],.bool false,.int .i64 0]) (mM Tryz.results258 _ _ w.heap.size 212 _ (0,0) _ _ _ rfl rfl rfl q Tryz.underlying212 rfl bm) rfl ?_;rw [L.out.1];exact⟨rfl,O,fun _=>cc.out.chg a6 (fun e=>aj e.symm) (fun k Z e=>by have:=b1 k Z;omega)⟩
    · by_cases c9:s<256;· have L:=ad (And.intro (KC.out rfl c9) trivial);have cc:=ad I;have d9:IntKind.u8.wrap (s:Int)=(s:Int):=(by simp [IntKind.wrap,IntKind.bits,IntKind.signed];omega);have i1:¬(s:Int)=256:=(by omega);have i2:(s:Int)<256:=(by omega);have cA:(UInt8.ofNat s).toNat=s:=(by rw [lP];omega);have ds:Hid ((UInt8.ofNat s).toNat=s/\True):=⟨cA,trivial⟩;clear KA KB KC KD bk I bu bv cA;have x0:=al m 0;have x1:=al m 1;have x2:=al m 2;have y0:=af m 0 rfl;have y1:=af m 1 rfl;have y2:=af m 2 rfl;have D:=ad (fun o=>HZ.out wc o (.int .u8 (s:Int)) (.int .i64 0) (.int .i64 0) _ _ _ m b8);clear m;go_wp2_with fail;generalize F:((wc.setCell ⟨w.heap.size,0,none⟩ (.int .u8 (s:Int))).setCell ⟨w.heap.size,1,none⟩ (.int .i64 0)).setCell ⟨w.heap.size,2,none⟩ (.int .i64 0)=o;obtain⟨q,O,a6⟩:=D.out o F.symm;clear F D;refine aL (v:=.tuple #[.agg #[.int .u8 (s:Int),.int .i64 0,.int .i64 0],.bool true,.int .i64 0]) (mM Tryz.results258 _ _ w.heap.size 212 _ (0,0) _ _ _ rfl rfl rfl q Tryz.underlying212 rfl bm) rfl ?_;rw [L.out.1];unfold uq lX;rw [ds.out.1];exact⟨rfl,O,fun _=>cc.out.chg a6 (fun e=>aj e.symm) (fun k Z e=>by have:=b1 k Z;omega)⟩
      · have dv:s<265:=(by have:=cq.out rfl;rw [HL.out]at this;exact this);have L:=ad (And.intro (KD.out rfl (by omega)) trivial);have ch:=ad (bk.out s a2 wc bu I bv (by omega) dv);have i1:¬(s:Int)=256:=(by omega);have i2:¬(s:Int)<256:=(by omega);clear KA KB KC KD bk I bu bv cq HL c9 c8;generalize cY z r s a2=M at *;obtain⟨t,a3,e3⟩:=M;simp only [Ad,lX]at ch;go_wp2_with fail;refine(ch.out).mono ?_;rintro e w4 ⟨rfl,cB,cE⟩;have U:=cB.heap m aj;have d2:=b8.trans cB fun _ _ h=>h;have d3:=ad cE;clear m cE ch;have x0:=al U 0;have x1:=al U 1;have x2:=al U 2;have y0:=af U 0 rfl;have y1:=af U 1 rfl;have y2:=af U 2 rfl;have D:=ad (fun o=>HZ.out w4 o (.int .u8 (t.lit.toNat:Int)) (N t.len) (N t.dist) _ _ _ U d2);clear U;go_upto_region 7 with fail;generalize F:((w4.setCell ⟨w.heap.size,0,none⟩ (.int .u8 (t.lit.toNat:Int))).setCell ⟨w.heap.size,1,none⟩ (N t.len)).setCell ⟨w.heap.size,2,none⟩ (N t.dist)=o;obtain⟨q,O,a6⟩:=D.out o F.symm;clear F D;clear x0 x1 x2 y0 y1 y2;by_cases h3:e3=0;· subst h3;have x0:=al q 0;have x1:=al q 1;have x2:=al q 2;have y0:=af q 0 rfl;have y1:=af q 1 rfl;have y2:=af q 2 rfl;have D:=ad (fun aa=>HZ.out o aa (.int .u8 (t.lit.toNat:Int)) (N t.len) (N t.dist) _ _ _ q O);clear q;go_wp2_with fail;generalize F:((o.setCell ⟨w.heap.size,0,none⟩ (.int .u8 (t.lit.toNat:Int))).setCell ⟨w.heap.size,1,none⟩ (N t.len)).setCell ⟨w.heap.size,2,none⟩ (N t.dist)=aa;obtain⟨ck,cl,cF⟩:=D.out aa F.symm;clear F D;refine aL (v:=.tuple #[.agg #[.int .u8 (t.lit.toNat:Int),N t.len,N t.dist],.bool true,.int .i64 0]) (mM Tryz.results258 _ _ w.heap.size 212 _ (0,0) _ _ _ rfl rfl rfl ck Tryz.underlying212 rfl bm) rfl ?_;rw [L.out.1];exact⟨rfl,cl,fun _=>((d3.out (by first | rfl | trivial)).chg a6 (fun e=>aj e.symm) (fun k Z e=>by have:=b1 k Z;omega)).chg cF (fun e=>aj e.symm) (fun k Z e=>by have:=b1 k Z;omega)⟩
        · have j3:¬(e3:Int)=0:=(by omega);have j4:((e3:Int) == 0)=false:=(by simpa using j3);have x0:=al q 0;have x1:=al q 1;have x2:=al q 2;have y0:=af q 0 rfl;have y1:=af q 1 rfl;have y2:=af q 2 rfl;have D:=ad (fun aa=>HZ.out o aa (.int .u8 (t.lit.toNat:Int)) (N t.len) (N t.dist) _ _ _ q O);clear q;go_wp2_with fail;generalize F:((o.setCell ⟨w.heap.size,0,none⟩ (.int .u8 (t.lit.toNat:Int))).setCell ⟨w.heap.size,1,none⟩ (N t.len)).setCell ⟨w.heap.size,2,none⟩ (N t.dist)=aa;obtain⟨ck,cl,cF⟩:=D.out aa F.symm;clear F D;refine aL (v:=.tuple #[.agg #[.int .u8 (t.lit.toNat:Int),N t.len,N t.dist],.bool false,.int .i64 (e3:Int)]) (mM Tryz.results258 _ _ w.heap.size 212 _ (0,0) _ _ _ rfl rfl rfl ck Tryz.underlying212 rfl bm) rfl ?_;rw [L.out.1];refine⟨?_,cl,fun h=>absurd h h3⟩;unfold uq;simp only [aX h3]
  · have L:=ad (And.intro (KA.out he) trivial);have j1:¬(Y:Int)=0:=(by omega);have j2:((Y:Int) != 0)=true:=bne_iff_ne.2 (by omega);clear KA KB KC KD bk I bu bv;have x0:=al m 0;have x1:=al m 1;have x2:=al m 2;have y0:=af m 0 rfl;have y1:=af m 1 rfl;have y2:=af m 2 rfl;have D:=ad (fun o=>HZ.out wc o (.int .u8 0) (.int .i64 0) (.int .i64 0) _ _ _ m b8);clear m;go_wp2_with fail;generalize F:((wc.setCell ⟨w.heap.size,0,none⟩ (.int .u8 0)).setCell ⟨w.heap.size,1,none⟩ (.int .i64 0)).setCell ⟨w.heap.size,2,none⟩ (.int .i64 0)=o;obtain⟨q,O,a6⟩:=D.out o F.symm;clear F D;refine aL (v:=.tuple #[.agg #[.int .u8 0,.int .i64 0,.int .i64 0],.bool false,.int .i64 (Y:Int)]) (mM Tryz.results258 _ _ w.heap.size 212 _ (0,0) _ _ _ rfl rfl rfl q Tryz.underlying212 rfl bm) rfl ?_;rw [L.out.1];exact⟨rfl,O,fun h=>absurd h he⟩
end Go.Proofs.YtfpijnhhdfoohaaGreatDoor
namespace Go.Fk
theorem CT(d r:List UInt8)(a:Nat)(h:(aE d r a).2.2=0):a+1<=(aE d r a).2.1:=by
 unfold aE at h ⊢;cases e:mX d (aI r a 15) (ff r a)with
 | some s=>have:=((uw _ _ _ _).1 (List.find?_some e)).1;simp only;omega
 | none=>rw [e]at h;simp at h;split at h <;> cases h
theorem L4(d r:List UInt8)(s a:Nat)(h:(cY d r s a).2.2=0):a<=(cY d r s a).2.1:=by
 unfold cY at h ⊢;by_cases m:8*r.length<a+(s - 257);· rw [ag m];exact am _
 · rw [ae m]at h ⊢;by_cases e:(aE d r (a+(s - 257))).2.2=0
   · have:=CT d r _ e;rw [ag e]at h ⊢;by_cases o:8*r.length<(aE d r (a+(s - 257))).2.1+(aE d r (a+(s - 257))).1;· rw [ag o];exact am _
     · rw [ae o];simp only;omega
   · rw [ae e];exact am _
theorem GF(d m r:List UInt8)(a:Nat)(h:(bH d m r a).2.2.2=0):a+1<=(bH d m r a).2.2.1:=by
 unfold bH at h ⊢;by_cases e:(aE d r a).2.2=0
 · have o:=CT d r a e;rw [ag e]at h ⊢;by_cases q:(aE d r a).1=256;· rw [ag q];exact o
   · rw [ae q]at h ⊢;by_cases z:(aE d r a).1<256;· rw [ag z];exact o
     · rw [ae z]at h ⊢;exact az o (L4 m r _ _ h)
 · rw [ae e]at h;exact absurd h e
theorem GI(d h r:List UInt8)(a:Nat)(z:d.length=265)(_:(bH d h r a).2.2.2=0):(bH d h r a).1.len<=1000:=by
 unfold bH;by_cases e:(aE d r a).2.2=0
 · have A:=so d r a e;rw [ag e];by_cases m:(aE d r a).1=256;· rw [ag m];exact an _
   · rw [ae m];by_cases o:(aE d r a).1<256;· rw [ag o];exact an _
     · rw [ae o];generalize (aE d r a).2.1=q at *;generalize (aE d r a).1=s at *;simp only;unfold cY;have B:(2:Nat) ^ (s - 257)<=2 ^ 7:=ep (by omega) (by omega);have D:=nD r q (s - 257);split;· exact an _
       · split
         · split;· exact an _
           · simp only;omega
         · exact an _
 · rw [ae e];exact an _
theorem qz(d e r:List UInt8)(f h a:Nat)(m:List aW):fA d e r (f+1) h a m =
  if (bH d e r a).2.2.2 = 0 then (if (bH d e r a).2.1 = true then (if h < gj (bH d e r a).1 then ([], a, 6) else fA d e r f (h - gj (bH d e r a).1) (bH d e r a).2.2.1 (m ++ [(bH d e r a).1]))
   else (m, (bH d e r a).2.2.1, 0)) else ([], a, (bH d e r a).2.2.2) := by
 rw [fA];unfold bH;by_cases q:(aE d r a).2.2=0
 · simp only [ag q];by_cases z:(aE d r a).1=256;· simp only [ag z];simp
   · simp only [ae z];by_cases A:(aE d r a).1<256;· simp only [ag A,gj];simp
     · simp only [ae A];by_cases o:(cY e r (aE d r a).1 (aE d r a).2.1).2.2=0;· simp only [ag o,bt o];simp
       · simp only [ae o]
 · simp only [ae q]
theorem GN(d e r:List UInt8)(f m a:Nat)(o:List aW)(h:¬(bH d e r a).2.2.2=0):fA d e r (f+1) m a o=([],a,(bH d e r a).2.2.2):=by rw [qz,ae h]
theorem GP(d e r:List UInt8)(f o a:Nat)(m:List aW)(h:(bH d e r a).2.2.2=0)(q:(bH d e r a).2.1=false):fA d e r (f+1) o a m=(m,(bH d e r a).2.2.1,0):=by rw [qz,ag h,ae (by rw [q];simp)]
theorem GM(d e r:List UInt8)(f m a:Nat)(o:List aW)(h:(bH d e r a).2.2.2=0)(q:(bH d e r a).2.1=true)(z:m<gj (bH d e r a).1):fA d e r (f+1) m a o=([],a,6):=by rw [qz,ag h,ag q,ag z]
theorem GK(d e r:List UInt8)(f m a:Nat)(o:List aW)(h:(bH d e r a).2.2.2=0)(q:(bH d e r a).2.1=true)(z:¬m<gj (bH d e r a).1):fA d e r (f+1) m a o=fA d e r f (m - gj (bH d e r a).1) (bH d e r a).2.2.1 (o++[(bH d e r a).1]):=by rw [qz,ag h,ag q,ae z]
end Go.Fk
namespace Go.Proofs.YtfpijnhhdfoohaaGreatDoor
open Go.RowKit Go.Fk
theorem SB(v:Value)(l:List UInt8)(w:World)(d:ai w eB v l)(A:l.length<=1000000) :
  Calls Tryz.prog 256 #[v] w fun e h=>∃ B u,e=.returned (.pointer (some ⟨B,0,none⟩))/\dp h B w.heap.size u l (8*l.length) 0/\Fr w h/\w.heap.size<=B:=by
 have D:=ad (jT v l w d A);obtain⟨F,G,rfl,_⟩:=d.shape;clear d;go_enter Tryz.func256, Tryz.ntmps256;go_wp2_with fail;refine(D.out).mono ?_;rintro e m ⟨u,rfl,o,q⟩;obtain⟨p,z,rfl⟩:=o.shape';go_wp2_with fail;go_ret;exact⟨m.heap.size,_,rfl,⟨by rw [a9 _ _ _ rfl];simp,o.fr ((Fr.refl m).alloc _),rfl,an _⟩,q.alloc _,q.size⟩
end Go.Proofs.YtfpijnhhdfoohaaGreatDoor
namespace Go.Proofs.YtfpijnhhdfoohaaGreatDoor
open Go.RowKit Go.Fk
theorem QM(v0:Value)(b:List UInt8)(I:Nat)(w:World)(hs:ai w eB v0 b)(hl:b.length<=1000000)(hm:I<=1000000) :
  Calls Tryz.prog 231 #[v0,N I] w fun e w'=>∃ u,e=.returned (.tuple #[u,.int .i64 ((ee b I).2:Int)])/\Ow w' w.heap.size jp u (ee b I).1/\Fr w w':=by
 have HN:=ad (SB v0 b w hs hl);have K1:Hid (¬(bi b 265 0).2.2=0->ee b I=([],(bi b 265 0).2.2)):=fun h=>by unfold ee oi;rw [ae h]
 have K2:Hid ((bi b 265 0).2.2=0->¬(bi b 12 (bi b 265 0).2.1).2.2=0->ee b I=([],(bi b 12 (bi b 265 0).2.1).2.2)):=fun h U=>by unfold ee oj oi;rw [ag h,ae U]
 have K3:Hid ((bi b 265 0).2.2=0->(bi b 12 (bi b 265 0).2.1).2.2=0->ee b I=if(fA (bi b 265 0).1 (bi b 12 (bi b 265 0).2.1).1 b (8*b.length+1) I (bi b 12 (bi b 265 0).2.1).2.1 []).2.2=0 then(if mQ b (fA (bi b 265 0).1 (bi b 12 (bi b 265 0).2.1).1 b (8*b.length+1) I (bi b 12 (bi b 265 0).2.1).2.1 []).2.1 then((fA (bi b 265 0).1 (bi b 12 (bi b 265 0).2.1).1 b (8*b.length+1) I (bi b 12 (bi b 265 0).2.1).2.1 []).1,0)else([],2))else([],(fA (bi b 265 0).1 (bi b 12 (bi b 265 0).2.1).1 b (8*b.length+1) I (bi b 12 (bi b 265 0).2.1).2.1 []).2.2)):=fun h U=>by unfold ee pf oj oi;rw [ag h,ag U]
 have cN:=ad (fun R B bb n8 s1 s2 v W h1 U=>Ew R B bb n8 0 265 s1 s2 v b W h1 U hl (by omega));have di:=ad (fun R B bb n8 a s1 s2 v W h1 U=>Ew R B bb n8 a 12 s1 s2 v b W h1 U hl (by omega));obtain⟨a0,hv,rfl,_⟩:=hs.shape;clear hs;generalize bi b 265 0=S at *;obtain⟨A,sa,se⟩:=S;simp only at K1 K2 K3 cN;go_enter Tryz.func231, Tryz.ntmps231;go_wp2_with fail;refine(HN.out).mono ?_;rintro e Q ⟨B,v,rfl,cj,e2,ge⟩;have e3:B<Q.heap.size:=(aM.1 cj.h).1;have ck:∀ k,v.ownBlock=some k->k<Q.heap.size:=fun k h=>(cj.o.lt k h).2;have dj:Fr Q (Q.alloc (.cells #[.pointer (some ⟨B,0,none⟩),.pointer none,.pointer none] 373)):=(Fr.refl Q).alloc _;have ab:(Q.alloc (.cells #[.pointer (some ⟨B,0,none⟩),.pointer none,.pointer none] 373)).heap[Q.heap.size]?=some (.cells #[.pointer (some ⟨B,0,none⟩),.pointer none,.pointer none] 373 (0,0)):=a9 _ _ _ rfl;have dr:=cj.fr dj;have V:Q.heap.size≠B:=by omega
 have cl:=e2.trans dj;clear cj HN e2;go_upto_region 4 with fail;generalize Q.alloc (.cells #[.pointer (some ⟨B,0,none⟩),.pointer none,.pointer none] 373)=W2 at *;obtain⟨R,ds⟩:∃ R,R=Q.heap.size:=⟨_,rfl⟩;rw [<- ds]at ab V ck ⊢;have hw:w.heap.size<=R:=by rw [ds];exact az ge (Nat.le_of_lt e3)
 have dv:R<W2.heap.size:=(aM.1 ab).1;have e4:B<W2.heap.size:=(aM.1 dr.h).1;clear ds e3 dj;have d0:=ad (cN.out R B w.heap.size _ _ _ v W2 ab dr);clear cN dr;go_wp2_with fail;refine(d0.out).mono ?_;rintro e L ⟨ac,⟨d1,rfl⟩ | ⟨h0,o,cs,bs,rfl,d2,hS,e5,e6⟩⟩;· have X:=ac.heap ab V;have y1:=af X 1 rfl;have x1:=al X 1;have b3:Fr w L:=ah.below cl ac cl.size (fun i e=>by have e:i=B:=e;omega);have a3:Fr w (L.setCell ⟨R,1,none⟩ (.pointer none)):=ah.below b3 (ao L ⟨R,1,none⟩ (.pointer none)) b3.size (fun i e=>by have e:i=R:=e;omega);have hQ:=ad (K1.out d1);have j1:((se:Int) != 0)=true:=bne_iff_ne.2 (by omega);have j2:¬(se:Int)=0:=(by omega);clear K1 K2 K3 di d0 ab X ac;go_wp2_with fail;go_ret2;rw [hQ.out];exact⟨_,rfl,Ow.nil,a3⟩
 · have X:=ac.heap ab V;have y1:=af X 1 rfl;have x1:=al X 1;have b3:Fr w L:=ah.below cl ac cl.size (fun i e=>by have e:i=B:=e;omega);have a3:Fr w (L.setCell ⟨R,1,none⟩ (.pointer (some ⟨o,0,none⟩))):=ah.below b3 (ao L ⟨R,1,none⟩ (.pointer (some ⟨o,0,none⟩))) b3.size (fun i e=>by have e:i=R:=e;omega);have b4:(L.setCell ⟨R,1,none⟩ (.pointer (some ⟨o,0,none⟩))).heap[R]?=some (.cells #[.pointer (some ⟨B,0,none⟩),.pointer (some ⟨o,0,none⟩),.pointer none] 373 (0,0)):=a8 X 1 (.pointer (some ⟨o,0,none⟩));have eL:=e5.chg (ao L ⟨R,1,none⟩ (.pointer (some ⟨o,0,none⟩))) (fun e=>V e.symm) (fun k d e=>by have:=ck k d;have e:k=R:=e;omega);have d3:=hS.rd (nt dv d2) (ao L ⟨R,1,none⟩ (.pointer (some ⟨o,0,none⟩)));have cp:=ad (K2.out h0);have cq:=ad (K3.out h0);have d4:B<bs:=nt e4 d2;have gg:Hid (W2.heap.size<=(L.setCell ⟨R,1,none⟩ (.pointer (some ⟨o,0,none⟩))).heap.size):=az ac.size (ao L ⟨R,1,none⟩ (.pointer (some ⟨o,0,none⟩))).size;subst h0;clear K1 K2 K3 d0 ab X ac e5 hS;go_upto_region 7 with fail;clear y1 x1;generalize L.setCell ⟨R,1,none⟩ (.pointer (some ⟨o,0,none⟩))=W4 at *;have d5:=ad (di.out R B w.heap.size _ sa _ _ v W4 b4 eL);generalize bi b 12 sa=F at *;obtain⟨D,fa,fe⟩:=F;simp only at cp cq;clear di eL;go_wp2_with fail;refine(d5.out).mono ?_;rintro e Y ⟨aj,⟨d1,rfl⟩ | ⟨h0,gf,cf,bf,rfl,fh,hH,fk,gi⟩⟩;· have Z:=aj.heap b4 V;have y2:=af Z 2 rfl;have x2:=al Z 2;have b5:Fr w Y:=ah.below a3 aj a3.size (fun i e=>by have e:i=B:=e;omega);have b6:Fr w (Y.setCell ⟨R,2,none⟩ (.pointer none)):=ah.below b5 (ao Y ⟨R,2,none⟩ (.pointer none)) b5.size (fun i e=>by have e:i=R:=e;omega);have hQ:=ad (cp.out d1);have j1:((fe:Int) != 0)=true:=bne_iff_ne.2 (by omega);have j2:¬(fe:Int)=0:=(by omega);clear cp cq d5 b4 Z aj d3;go_wp2_with fail;go_ret2;rw [hQ.out];exact⟨_,rfl,Ow.nil,b6⟩
   · have Z:=aj.heap b4 V;have fl:W2.heap.size<=W4.heap.size:=gg.out;have g1:R<bf:=nt dv (az fl fh);have fm:B<bf:=nt e4 (az fl fh);have y2:=af Z 2 rfl;have x2:=al Z 2;have b7:=ao Y ⟨R,2,none⟩ (.pointer (some ⟨gf,0,none⟩));have b5:Fr w Y:=ah.below a3 aj a3.size (fun i e=>by have e:i=B:=e;omega);have b6:Fr w (Y.setCell ⟨R,2,none⟩ (.pointer (some ⟨gf,0,none⟩))):=ah.below b5 b7 b5.size (fun i e=>by have e:i=R:=e;omega);have d6:(Y.setCell ⟨R,2,none⟩ (.pointer (some ⟨gf,0,none⟩))).heap[R]?=some (.cells #[.pointer (some ⟨B,0,none⟩),.pointer (some ⟨o,0,none⟩),.pointer (some ⟨gf,0,none⟩)] 373 (0,0)):=a8 Z 2 (.pointer (some ⟨gf,0,none⟩));have cv:=fk.chg b7 (fun e=>V e.symm) (fun k d e=>by have:=ck k d;have e:k=R:=e;omega);have a6:=(d3.rd d4 aj).rd (nt dv d2) b7;have a7:=hH.rd g1 b7;have hQ:=ad (cq.out h0);subst h0;clear cp cq d5 b4 Z aj d3 fk hH b7;have fn:=ad (GN A D b);have fr:=ad (GP A D b);have fv:=ad (GM A D b);have f0:=ad (GK A D b);have HP:=ad (GF A D b);have b8:=ad (fun a W h=>RG B w.heap.size (8*b.length) a b W h hl);have b9:=ad (fun a W h1 U h3 h4=>QL R B w.heap.size (8*b.length) a bs o bf gf v cs cf A D b W h1 U hl h3 e6 d4 h4 gi fm V);go_wp2_with fail;generalize Y.setCell ⟨R,2,none⟩ (.pointer (some ⟨gf,0,none⟩))=W6 at *;obtain⟨K,aa⟩:∃ K,K=W6.heap.size:=⟨_,rfl⟩;have f3:w.heap.size<=K:=by rw [aa];exact b6.size
     have c5 : Hid (∀ W W' a (G : Nat → Prop), ah G W W' → (∀ k, G k → K ≤ k) → dp W B w.heap.size v b (8 * b.length) a → df W bs o A A.length cs → df W bf gf D D.length cf → W.heap[R]? = some (.cells #[.pointer (some ⟨B, 0, none⟩), .pointer (some ⟨o, 0, none⟩), .pointer (some ⟨gf, 0, none⟩)] 373 (0, 0)) →
       dp W' B w.heap.size v b (8 * b.length) a ∧ df W' bs o A A.length cs ∧ df W' bf gf D D.length cf ∧ W'.heap[R]? = some (.cells #[.pointer (some ⟨B, 0, none⟩), .pointer (some ⟨o, 0, none⟩), .pointer (some ⟨gf, 0, none⟩)] 373 (0, 0))) := by
      intro W W' a G hc M c1 c2 c3 c4
      have q1:R<K:=by rw [aa];exact(aM.1 d6).1
      have q2:B<K:=by rw [aa];exact(aM.1 cv.h).1
      have q3:o<K:=by rw [aa];exact a6.arr.lt
      have q4:gf<K:=by rw [aa];exact a7.arr.lt
      refine ⟨c1.chg hc (fun e => by have := M _ e; omega) (fun k d e => by have := M _ e; have := ck k d; omega),
       c2.chg hc (fun e => by have := M _ e; omega) (fun k d e => by have := M _ e; have := (a6.own0.lt k d).2; omega) (fun k d e => by have := M _ e; have := (a6.own1.lt k d).2; omega) (fun l l1 l2 k d e => by have := M _ e; have := ((a6.syms l l1 l2).lt k d).2; omega),
       c3.chg hc (fun e => by have := M _ e; omega) (fun k d e => by have := M _ e; have := (a7.own0.lt k d).2; omega) (fun k d e => by have := M _ e; have := (a7.own1.lt k d).2; omega) (fun l l1 l2 k d e => by have := M _ e; have := ((a7.syms l l1 l2).lt k d).2; omega),
       hc.heap c4 (fun e => by have := M _ e; omega)⟩
     have h6:B<K:=(by rw [aa];exact(aM.1 cv.h).1);have hI:fA A D b (8*b.length+1) I fa []=fA A D b (8*b.length+1) I fa []:=rfl;generalize f5:fA A D b (8*b.length+1) I fa []=G0 at *;have f6:=ad (And.intro f5 trivial);have f7:K<=W6.heap.size:=(by rw [aa];exact am _);clear f5 hI aa;go_loopw [1,4] (fun mv ov wr=>∃ (f m a:Nat) (O:List aW),mv=N m/\Hid (fA A D b f m a O=G0/\True)/\8*b.length+1<=f+a/\O.length+m<=I/\Ow wr K jp ov O/\dp wr B w.heap.size v b (8*b.length) a/\df wr bs o A A.length cs/\df wr bf gf D D.length cf/\wr.heap[R]?=some (.cells #[.pointer (some ⟨B,0,none⟩),.pointer (some ⟨o,0,none⟩),.pointer (some ⟨gf,0,none⟩)] 373 (0,0))/\Fr w wr/\K<=wr.heap.size) (fun mv _ _=>(intOf mv).toNat);case atStart=>exact⟨8*b.length+1,I,fa,[],rfl,f6,by omega,by simp,Ow.nil,cv,a6,a7,d6,b6,f7⟩
     case round=>
      clear cv a6 a7 d6 b6 f7 f6;obtain⟨f,m,a,O,rfl,HG,h7,h8,hO,hC,hS,hH,hR,hF,f9⟩:=hrel;have h9:=hC.le;obtain⟨f,rfl⟩:∃ g,f=g+1:=⟨f - 1,by omega⟩;have HT:=ad (b9.out a wr hR hC hS hH);have E1:=ad (fn.out f m a O);have E2:=ad (fr.out f m a O);have E3:=ad (fv.out f m a O);have E4:=ad (f0.out f m a O);have fB:=ad (HP.out a);have fC:=ad (GI A D b a e6.1);have HC:=ad hC;have HS:=ad hS;have HH:=ad hH;clear hC hS hH fn fr fv f0 HP;generalize bH A D b a=q at *;obtain⟨t,gO,a',er⟩:=q;simp only [uq,lX]at HT;simp only at E1 E2 E3 E4 fB fC;obtain⟨p,z,rfl⟩:=hO.shape';go_wp2_with fail;refine(HT.out).mono ?_;rintro e J ⟨rfl,bm,ec⟩;have ap:Fr J (J.alloc (.cells #[.int .u8 (t.lit.toNat:Int),N t.len,N t.dist] 212)):=(Fr.refl J).alloc _;have ef:(J.alloc (.cells #[.int .u8 (t.lit.toNat:Int),N t.len,N t.dist] 212)).heap[J.heap.size]?=some (.cells #[.int .u8 (t.lit.toNat:Int),N t.len,N t.dist] 212 (0,0)):=a9 _ _ _ rfl;have av:=(hO.chg bm (fun k d e=>by have:=(hO.lt k d).1;have e:k=B:=e;omega)).fr ap;have bA:=ap.heap (bm.heap hR V);have bB:=(HS.out.rd d4 bm).fr ap;have bL:=(HH.out.rd fm bm).fr ap;have bu:Fr w (J.alloc (.cells #[.int .u8 (t.lit.toNat:Int),N t.len,N t.dist] 212)):=Fr.trans (show Fr w J from ah.below hF bm hF.size (fun i e=>by have e:i=B:=e;omega)) ap;have fP:=az (az f9 bm.size) ap.size;clear HT HC HS HH hO hR hF f9;by_cases he:er=0
      · subst he;have fQ:=ec (by first | rfl | trivial);have bR:=fQ.fr ap;clear ec fQ;go_upto_region 13 with fail
        cases gO with
        | false=>
         have bT:G0=(O,a',0):=HG.out.1.symm.trans (E2.out (by first | rfl | trivial) (by first | rfl | trivial));subst bT;have cA:=ad (b8.out a' _ bR.f);have c0:(J.alloc (.cells #[.int .u8 (t.lit.toNat:Int),N t.len,N t.dist] 212)).cell? ⟨R,0,none⟩=some (.pointer (some ⟨B,0,none⟩)):=(by rw [aA bA];rfl);have hb:=ad av;have fS:=ad bu;clear E1 E2 E3 E4 b9 c5 b8 bA bB bL bR av bu;generalize J.alloc (.cells #[.int .u8 (t.lit.toNat:Int),N t.len,N t.dist] 212)=W8 at *;simp only [mA]at hQ
         cases hp:mQ b a' with
         | true=>rw [hp]at cA hQ;go_wp2_with fail;refine(cA.out).mono ?_;rintro e w9 ⟨rfl,cE⟩;go_wp2_with fail;go_ret2;rw [hQ.out];exact⟨_,rfl,(hb.out.fr cE.fr).rebase f3,fS.out.trans cE.fr⟩
         | false=>rw [hp]at cA hQ;go_wp2_with fail;refine(cA.out).mono ?_;rintro e w9 ⟨rfl,cE⟩;go_wp2_with fail;go_ret2;rw [hQ.out];exact⟨_,rfl,Ow.nil,fS.out.trans cE.fr⟩
        | true=>
         have c1:(J.alloc (.cells #[.int .u8 (t.lit.toNat:Int),N t.len,N t.dist] 212)).cell? ⟨J.heap.size,1,none⟩=some (N t.len):=(by rw [aA ef];rfl);have hA:t.len<=1000:=fC.out (by first | rfl | trivial);have c0:(J.alloc (.cells #[.int .u8 (t.lit.toNat:Int),N t.len,N t.dist] 212)).cell? ⟨J.heap.size,0,none⟩=some (.int .u8 (t.lit.toNat:Int)):=(by rw [aA ef];rfl);have c2:(J.alloc (.cells #[.int .u8 (t.lit.toNat:Int),N t.len,N t.dist] 212)).cell? ⟨J.heap.size,2,none⟩=some (N t.dist):=(by rw [aA ef];rfl);have bv:gj t=max 1 t.len:=rfl;go_upto_region 15 with fail;generalize J.alloc (.cells #[.int .u8 (t.lit.toNat:Int),N t.len,N t.dist] 212)=W8 at *;by_cases ca:m<gj t;· have bT:G0=([],a,6):=HG.out.1.symm.trans (E3.out (by first | rfl | trivial) (by first | rfl | trivial) ca);subst bT;have j1:(m:Int) - max 1 (t.len:Int)<0:=(by rw [bv]at ca;omega);rw [ae (show ¬(6:Nat)=0 by decide)]at hQ;clear E1 E2 E3 E4 b9 c5 b8 bA bB bL av HG bR bv;go_wp2_with fail;go_ret2;rw [hQ.out];exact⟨_,rfl,Ow.nil,bu⟩
         · have hd:=ad (And.intro ((E4.out (by first | rfl | trivial) (by first | rfl | trivial) ca).symm.trans HG.out.1) trivial);have j1:¬(m:Int) - max 1 (t.len:Int)<0:=(by rw [bv]at ca;omega);have gc:(m:Int) - max 1 (t.len:Int)=((m - gj t:Nat):Int):=(by rw [bv]at ca ⊢;omega);have hB:1<=gj t:=(by rw [bv];omega);have hE:a+1<=a':=fB.out (by first | rfl | trivial);have hf:Hid (O.length+[t].length<=2147483648):=(by show _<=_;simp;omega);have hg:=ad bR;have hh:=ad bB;have hi:=ad bL;have hj:=ad gc;clear E1 E2 E3 E4 b9 b8 HG bR bB bL bv gc;go_wp2_with (at_builtin;refine cW jp rfl (.tmp 57) (.tmp 59) 153 rfl Tryz.underlying153 K rfl av [t] _ _ _ rfl rfl rfl hf.out fP ?_);intro v9 w9 cF;obtain⟨k1,k2,k3,k4⟩:=c5.out W8 w9 a' _ cF.chg' (fun k d=>(av.lt k d).1) hg.out hh.out hi.out bA;have hr:Fr w w9:=cF.below av bu f3 bu.size;go_wp2_with fail;go_roundw;case rel=>exact⟨f,m - gj t,a',O++[t],gS (Value.int .i64) hj.out,hd,by omega,by simp;omega,cF.own,k1,k2,k3,k4,hr,az fP cF.size⟩
           case measure=>simp [intOf];omega
      · have bT:G0=([],a,er):=HG.out.1.symm.trans (E1.out he);subst bT;have j1:((er:Int) != 0)=true:=bne_iff_ne.2 (by omega);have j2:¬(er:Int)=0:=(by omega);rw [ae he]at hQ;clear E1 E2 E3 E4 b9 c5 b8 bA bB bL av ec HG;go_wp2_with fail;go_ret2;rw [hQ.out];exact⟨_,rfl,Ow.nil,bu⟩
end Go.Proofs.YtfpijnhhdfoohaaGreatDoor
namespace Go.Fk
theorem GH(h m r:List UInt8)(a:Nat)(I:h.length=265)(J:m.length=12)(e:(bH h m r a).2.2.2=0):ez (bH h m r a).1=true:=by
 unfold bH at e ⊢;by_cases q:(aE h r a).2.2=0
 · have K:=so h r a q;rw [ag q]at e ⊢;by_cases A:(aE h r a).1=256;· rw [ag A];rfl
   · rw [ae A]at e ⊢;by_cases B:(aE h r a).1<256;· rw [ag B];rfl
     · rw [ae B]at e ⊢;generalize (aE h r a).2.1=o at *;generalize (aE h r a).1=s at *;simp only at e ⊢;unfold cY at e ⊢;have L:(2:Nat) ^ (s - 257)<=2 ^ 7:=ep (by omega) (by omega);have M:0<(2:Nat) ^ (s - 257):=Nat.pow_pos (by omega);have O:=nD r o (s - 257);by_cases D:8*r.length<o+(s - 257);· rw [ag D]at e;cases e
       · rw [ae D]at e ⊢;by_cases z:(aE m r (o+(s - 257))).2.2=0
         · rw [ag z]at e ⊢;have Q:=so m r _ z;generalize (aE m r (o+(s - 257))).2.1=F at *;generalize (aE m r (o+(s - 257))).1=d at *;have R:(2:Nat) ^ d<=2 ^ 11:=ep (by omega) (by omega);have U:0<(2:Nat) ^ d:=Nat.pow_pos (by omega);have V:=nD r F d;by_cases G:8*r.length<F+d;· rw [ag G]at e;cases e
           · rw [ae G];unfold ez;simp only;rw [ae (by omega)];simp;omega
         · rw [ae z]at e;exact absurd e z
 · rw [ae q]at e;exact absurd e q
theorem GL(m o r:List UInt8)(z:m.length=265)(A:o.length=12):∀ f q a e,(∀ t∈e,ez t=true)->∀ t∈(fA m o r f q a e).1,ez t=true:=by
 intro f
 induction f with
 | zero=>intro q a e h;exact h
 | succ f B=>
  intro q a e h;rw [qz];split
  · rename_i D;split
    · split;· intro t d;cases d
      · refine B _ _ _ fun t d=>(iZ.1 d).elim (h t) fun F=>?_;rw [lT.1 F];exact GH m o r a z A D
    · exact h
  · intro t d;cases d
end Go.Fk
namespace Go.Fk
theorem Kf(e:Nat)(l:List aW):∀ d:List UInt8,d.length<=e->(dU e l d).1.length<=e:=by
 induction l with
 | nil=>intro d h;exact h
 | cons t l m=>
  intro d h;rw [dU];have o:gj t=max 1 t.len:=rfl;split;· exact an _
  · split;· exact an _
    · split;· exact an _
      · rename_i q;split;· refine m _ ?_;rw [aD,lg];omega
        · refine m _ ?_;rw [Dx];omega
theorem Gb(n:Nat)(d:List UInt8):(oY n d).1.length<=n:=by
 unfold oY;split
 · split
   · split;· exact an _
     · exact Kf n _ [] (an _)
   · exact an _
 · exact an _
theorem Hb(s:Cs)(l:List UInt8)(n:Nat):(s.take l n).1.length<=n:=by
 unfold Cs.take;split
 · split;· exact an _
   · rw [aG];omega
 · exact an _
theorem Me(r:List UInt8)(n:Nat):∀ f a e m,e.length<=n->n<=e.length+f->(dn r n f a e m).2.2=0->(dn r n f a e m).1.length=n:=by
 intro f
 induction f with
 | zero=>intro a e m D F _;show e.length=n;omega
 | succ f q=>
  intro a e m D F d;rw [dn]at d ⊢;by_cases z:n<=e.length;· rw [ag z];show e.length=n;omega
  · rw [ae z]at d ⊢;by_cases c2:8*r.length<a+4;· rw [ag c2]at d;cases d
    · rw [ae c2]at d ⊢;by_cases A:0<aI r a 4;· rw [ag A]at d ⊢;exact q _ _ _ (by rw [aD,lg];omega) (by rw [aD,lg];omega) d
      · rw [ae A]at d ⊢;by_cases B:8*r.length<a+4+6;· rw [ag B]at d;cases d
        · rw [ae B]at d ⊢;by_cases o:m=true\/n - e.length<=aI r (a+4) 6;· rw [ag o]at d;cases d
          · rw [ae o]at d ⊢;have G:aI r (a+4) 6<n - e.length:=by
             rcases ti (aI r (a+4) 6) (n - e.length)with h | h;· exact h
             · exact absurd (.inr h) o
            exact q _ _ _ (by rw [aD,jX];omega) (by rw [aD,jX];omega) d
theorem Ct(r:List UInt8)(n a:Nat)(h:(bi r n a).2.2=0):(bi r n a).1.length=n:=by
 unfold bi at h ⊢;by_cases d:(dn r n n a [] false).2.2=0
 · rw [ag d]at h ⊢;by_cases c2:cI (dn r n n a [] false).1=true;· rw [ag c2]at h ⊢;exact Me r n n a [] false (an _) (by simp) d
   · rw [ae c2]at h;cases h
 · rw [ae d]at h;exact absurd h d
theorem GJ(d e r:List UInt8):∀ f h a m,(fA d e r f h a m).1.length<=m.length+h:=by
 intro f
 induction f with
 | zero=>intro h a m;exact ru _ _
 | succ f o=>
  intro h a m;rw [qz];split
  · split
    · split;· exact an _
      · rename_i z;have q:=o (h - gj (bH d e r a).1) (bH d e r a).2.2.1 (m++[(bH d e r a).1]);have A:gj (bH d e r a).1=max 1 (bH d e r a).1.len:=rfl;rw [aD,lg]at q;omega
    · exact ru _ _
  · exact an _
theorem GD(r:List UInt8)(d:Nat):(ee r d).1.length<=d/\∀ t∈(ee r d).1,ez t=true:=by
 unfold ee;split
 · rename_i e;split
   · rename_i m;split
     · split;· have o:(pf r d).1.length<=0+d:=GJ (oi r).1 (oj r).1 r (8*r.length+1) d (oj r).2.1 [];refine⟨by show(pf r d).1.length<=d;omega,?_⟩;exact GL _ _ r (Ct r 265 0 e) (Ct r 12 _ m) _ _ _ [] (fun t h=>(gz h).elim)
       · exact⟨an _,fun t h=>(gz h).elim⟩
     · exact⟨an _,fun t h=>(gz h).elim⟩
   · exact⟨an _,fun t h=>(gz h).elim⟩
 · exact⟨an _,fun t h=>(gz h).elim⟩
end Go.Fk
namespace Go.Proofs.YtfpijnhhdfoohaaGreatDoor
open Go.RowKit Go.Fk
theorem Eg(b:List UInt8):(dM b).1.length<=32768:=by
 have d:(cU b).1<=32768:=Cs.int_top _ _ _;have e:(dB b).1<=32768:=Cs.int_top _ _ _;have h:(ea b).1.length<=(dB b).1:=Hb _ _ _;unfold dM;split
 · split;· show(ea b).1.length<=_;omega
   · exact an _
 · exact az (Gb _ _) d
theorem uQ(b:List UInt8):(aT b).1.length<=32768:=by
 unfold aT;split
 · split;· exact Eg b
   · exact an _
 · exact an _
def AP(r:aF):Prop:=r.source.length<=4000/\r.text.length<=4000
theorem J7(m:Bool)(b:List UInt8):∀ f s d,(∀ r∈d,AP r)->(iN m b f s d).1.length<=d.length+f/\∀ r∈(iN m b f s d).1,AP r:=by
 intro f
 induction f with
 | zero=>intro s d h;exact⟨am _,h⟩
 | succ f A=>
  intro s d h;rw [iN];split;· exact⟨ru _ _,h⟩
  · split;· rename_i B;have q:=Bj m b s B;have z:=A (dh m b s).2 (d++[fH m b s]) (fun r o=>(iZ.1 o).elim (h r) fun e=>by rw [lT.1 e];exact⟨q.2.2.1,q.2.2.2⟩);rw [aD,lg]at z;exact⟨by omega,z.2⟩
    · exact⟨an _,fun r o=>(gz o).elim⟩
theorem wN(d:Bool)(b:List UInt8):(dS d b).1.length<=b.length:=by
 have h:(dS d b).1.length<=0+b.length:=(J7 d b b.length ⟨0,0⟩ [] (fun r e=>(gz e).elim)).1;omega
theorem BO(x:List UInt8)(i:Nat):(eW x i).1.length<=32768:=by
 have d:=uQ (x.drop (aR x i).at_);have e:=wN true (aT (x.drop (aR x i).at_)).1;unfold eW;split
 · split
   · split;· exact an _
     · omega
   · exact an _
 · exact an _
end Go.Proofs.YtfpijnhhdfoohaaGreatDoor
namespace Go.Fk
theorem Kg(e:Nat)(t:aW)(l:List aW)(d:List UInt8)(h:ez t=true)(m:d.length<t.dist):dU e (t::l) d=([],8):=by rw [dU,ae (by rw [h];simp),ag m]
theorem Ke(e:Nat)(t:aW)(l:List aW)(d:List UInt8)(h:ez t=true)(m:¬d.length<t.dist)(o:e<d.length+gj t):dU e (t::l) d=([],6):=by rw [dU,ae (by rw [h];simp),ae m,ag o]
theorem Kd(e:Nat)(t:aW)(l:List aW)(d:List UInt8)(h:ez t=true)(m:¬d.length<t.dist)(o:¬e<d.length+gj t)(q:t.len=0):dU e (t::l) d=dU e l (d++[t.lit]):=by rw [dU,ae (by rw [h];simp),ae m,ae o,ag q]
theorem Ki(e:Nat)(t:aW)(l:List aW)(d:List UInt8)(h:ez t=true)(m:¬d.length<t.dist)(o:¬e<d.length+gj t)(q:¬t.len=0):dU e (t::l) d=dU e l (nJ t.dist t.len d):=by rw [dU,ae (by rw [h];simp),ae m,ae o,ae q]
end Go.Fk
namespace Go.Proofs.YtfpijnhhdfoohaaGreatDoor
open Go.RowKit Go.Fk
theorem Sb(v:Value)(l:List aW)(q:Nat)(w:World)(hs:ai w jp v l)(hm:∀ t∈l,ez t=true)(hl:l.length<=1000000)(cG:q<=1000000) :
  Calls Tryz.prog 232 #[v,N q] w fun e w'=>∃ u,e=.returned (.tuple #[u,.int .i64 ((dU q l []).2:Int)])/\Ow w' w.heap.size eB u (dU q l []).1/\Fr w w':=by
 have ca:=ad (fun t W (h:ez t=true)=>EF t W h);have cb:=ad (fun k (hk:k<l.length)=>wg hs k hk);have HM:=ad (fun k (hk:k<l.length)=>hm l[k] (bX hk));obtain⟨a0,cN,rfl,_⟩:=hs.shape;clear hs hm;obtain⟨G,a3⟩:∃ G,dU q l []=G:=⟨_,rfl⟩;have cf:=ad (And.intro a3 trivial);rw [a3];clear a3;go_enter Tryz.func232, Tryz.ntmps232;go_wp2_with fail;go_loopw [13,6] (fun kv ov wr=>∃ (k:Nat) (m:List UInt8),k<=l.length/\kv=N k/\Hid (dU q (l.drop k) m=G/\True)/\m.length<=q/\Ow wr w.heap.size eB ov m/\Fr w wr) (fun kv _ _=>l.length - (intOf kv).toNat);case atStart=>exact⟨0,[],an _,rfl,cf,an _,Ow.nil,Fr.refl _⟩
 case round=>
  obtain⟨k,m,hk,rfl,A,cR,O,hF⟩:=hrel;obtain⟨p,z,rfl⟩:=O.shape';by_cases a6:k<l.length
  · obtain⟨b,cT,cp,ch,c0,c1,c2⟩:=cb.out k a6;cases ch;have D:=HM.out k a6;have b1:=ad (fun W=>ca.out l[k] W D);have hD:l.drop k=l[k]::l.drop (k+1):=ip a6;rw [hD]at A;have Q:=ad (Kg q l[k] (l.drop (k+1)) m D);have R:=ad (Ke q l[k] (l.drop (k+1)) m D);have U:=ad (Kd q l[k] (l.drop (k+1)) m D);have V:=ad (Ki q l[k] (l.drop (k+1)) m D);have dc:l[k].len<=257:=by
     by_cases h0:l[k].len=0;· omega
     · exact(qL l[k] D h0).2.2.1
    have b2:¬l[k].len=0->1<=l[k].dist:=fun h0=>(qL l[k] D h0).2.2.2.1;clear hD D;generalize l[k]=t at *;have x0:=hF.cell c0;have x1:=hF.cell c1;have x2:=hF.cell c2;have i1:(k:Int)<l.length:=(by omega);have i2:(0:Int)<=k:=(by omega);have ac:Fr wr (wr.alloc (.cells #[.int .u8 (t.lit.toNat:Int),N t.len,N t.dist] 212)):=(Fr.refl wr).alloc _;have X:(wr.alloc (.cells #[.int .u8 (t.lit.toNat:Int),N t.len,N t.dist] 212)).heap[wr.heap.size]?=some (.cells #[.int .u8 (t.lit.toNat:Int),N t.len,N t.dist] 212 (0,0)):=a9 _ _ _ rfl;clear c0 c1 c2;go_upto_region 7 with fail;have b4:=ad (b1.out (wr.alloc (.cells #[.int .u8 (t.lit.toNat:Int),N t.len,N t.dist] 212)));have b5:=O.fr ac;have b6:=hF.trans ac;have dr:=ac.size;clear O hF x0 x1 x2 b1 ac;generalize wr.alloc (.cells #[.int .u8 (t.lit.toNat:Int),N t.len,N t.dist] 212)=W1 at *;have y0:=af X 0 rfl;have y1:=af X 1 rfl;have y2:=af X 2 rfl;go_wp2_with fail;refine(b4.out).mono ?_;rintro e w2 ⟨rfl,I⟩;have Y:=I.heap X;have J:=b5.fr I;have K:=b6.trans I;have z0:=I.cell y0;have z1:=I.cell y1;have z2:=I.cell y2;clear y0 y1 y2 X b5 b6 b4;have F:gj t=max 1 t.len:=rfl;by_cases g1:m.length<t.dist;· have Z:G=([],8):=A.out.1.symm.trans (Q.out g1);subst Z;have j1:(m.length:Int)<t.dist:=(by omega);clear Q R U V A J F;go_wp2_with fail;go_ret2;exact⟨_,rfl,Ow.nil,K⟩
    · have j1:¬(m.length:Int)<t.dist:=(by omega);by_cases B:q<m.length+gj t;· have Z:G=([],6):=A.out.1.symm.trans (R.out g1 B);subst Z;have j2:(q:Int) - m.length<max 1 (t.len:Int):=(by rw [F]at B;omega);clear Q R U V A J F;go_wp2_with fail;go_ret2;exact⟨_,rfl,Ow.nil,K⟩
      · have j2:¬(q:Int) - m.length<max 1 (t.len:Int):=(by rw [F]at B;omega);have bb:=K.size;by_cases g3:t.len=0
        · have av:=ad (And.intro ((U.out g1 B g3).symm.trans A.out.1) trivial);have cq:m.length+1<=q:=(by rw [F]at B;omega);have bc:Hid (m.length+[t.lit].length<=2147483648):=(by show _<=_;simp;omega);rw [g3]at z1 j2;clear Q R U V A F B Y;go_wp2_with (at_builtin;refine cW eB rfl (.tmp 39) (.tmp 42) 22 rfl Tryz.underlying22 w.heap.size rfl J [t.lit] _ _ _ rfl rfl rfl bc.out bb ?_);intro v9 w9 L;have bf:Fr w w9:=L.below J K (am _) bb;go_wp2_with fail;go_roundw;case rel=>exact⟨k+1,m++[t.lit],by omega,by go_num,av,by simp;omega,L.own,bf⟩
          case measure=>simp [intOf];omega
        · have av:=ad (And.intro ((V.out g1 B g3).symm.trans A.out.1) trivial);have d0:=b2 g3;have cq:m.length+t.len<=q:=(by rw [F]at B;omega);have j3:¬(t.len:Int)=0:=(by omega);have j4:((t.len:Int) == 0)=false:=(by simpa using j3);obtain⟨C,hC⟩:∃ C,nJ t.dist t.len m=C:=⟨_,rfl⟩;rw [hC]at av;have HC:=ad (And.intro hC trivial);have d2:Hid (C.length=m.length+t.len):=(by show _=_;rw [<- hC];exact Dx t.dist t.len m);clear Q R U V A F B z0 z1 z2 hC b2;generalize cu:wr.heap.size=g at *;have z1:=af Y 1 rfl;have z2:=af Y 2 rfl;clear cu;go_wp2_with fail;go_loopw [46,6] (fun jv ov wx=>∃ (j:Nat) (o:List UInt8),j<=t.len/\jv=N j/\Hid (nJ t.dist (t.len - j) o=C/\True)/\o.length=m.length+j/\Ow wx w.heap.size eB ov o/\wx.heap[g]?=some (.cells #[.int .u8 (t.lit.toNat:Int),N t.len,N t.dist] 212 (0,0))/\Fr w wx) (fun jv _ _=>t.len - (intOf jv).toNat);case atStart=>exact⟨0,m,an _,rfl,HC,rfl,J,Y,K⟩
          case round=>
           clear J Y K bb z1 z2 HC;obtain⟨j,o,hj,rfl,a1,bB,M,bm,bs⟩:=hrel;obtain⟨p3,z3,rfl⟩:=M.shape';have y2:=af bm 2 rfl;by_cases d6:j<t.len
           · have aa:o.length - t.dist<o.length:=(by omega);obtain⟨b3,c5,d7,c6,c3⟩:=M.see.cell1 Fk.u8 rfl (o.length - t.dist) aa;cases c6;have c7:Hid (nJ t.dist (t.len - (j+1)) (o++[o[o.length - t.dist]'aa])=C/\True):=(by refine⟨?_,trivial⟩;have h:=a1.out.1;rw [show t.len - j=(t.len - (j+1))+1 by omega,nJ,cD,bE aa]at h;exact h);generalize o[o.length - t.dist]'aa=x at *;have i3:(j:Int)<t.len:=(by omega);obtain⟨d,hd⟩:∃ d,d=o.length - t.dist:=⟨_,rfl⟩;have c4:wr.cell? ⟨b3,c5+d,none⟩=some (Fk.u8 x):=(by rw [hd];exact c3);have d9:wrap64 ((o.length:Int) - t.dist)=(d:Int):=(by rw [IntWalk.wrap64_in _ (by omega)];omega);have i4:(d:Int)<o.length:=(by omega);have i5:(0:Int)<=(d:Int):=(by omega);have bc:Hid (o.length+[x].length<=2147483648):=(by show _<=_;simp;omega);have bT:=bs.size;have c9:=ad bB;clear a1 c3 hd bB aa;go_wp2_with (at_builtin;refine cW eB rfl (.tmp 48) (.tmp 57) 22 rfl Tryz.underlying22 w.heap.size rfl M [x] _ _ _ rfl rfl rfl bc.out bT ?_);intro v9 w9 L;have cA:=L.chg'.heap bm (M.ne_cells bm (by decide));have bf:Fr w w9:=L.below M bs (am _) bT;go_wp2_with fail;go_roundw;case rel=>exact⟨j+1,o++[x],by omega,by go_num,c7,by have:=c9.out;simp;omega,L.own,cA,bf⟩
             case measure=>simp [intOf];omega
           · obtain rfl:j=t.len:=(by omega);have cB:o=C:=(by have:=a1.out.1;rw [gu]at this;exact this);subst cB;have i3:¬(t.len:Int)<t.len:=(by omega);clear a1;go_wp2_with fail;go_roundw;case rel=>exact⟨k+1,o,by omega,by go_num,av,by omega,M,bs⟩
             case measure=>simp [intOf];omega
  · obtain rfl:k=l.length:=(by omega);have Z:G=(m,0):=(by have:=A.out.1;rw [qk]at this;exact this.symm);subst Z;have HO:=ad O;clear A O;go_wp2_with fail;go_ret2;exact⟨_,rfl,HO.out,hF⟩
end Go.Proofs.YtfpijnhhdfoohaaGreatDoor
namespace Go.Proofs.YtfpijnhhdfoohaaGreatDoor
open Go.RowKit Go.Fk
theorem Qg (F B base : Nat) (u : Value) (b : List UInt8) (w : World) (hl : b.length ≤ 1000000) (h0 : ¬ (dF b).1 = 0) (G : w.heap[F]? = some (ku B (dF b).1 (cU b).1 (dB b).1 u)) (Q : Ow w base eB u (ea b).1) :
    Calls Tryz.prog 197 #[.pointer (some ⟨F,0,none⟩)] w fun e w'=>∃ x,e=.returned (.tuple #[x,.int .i64 ((dM b).2:Int)])/\ai w' eB x (dM b).1/\Fr w w':=by
  have hn:(cU b).1<=32768:=Cs.int_top _ _ _;have ak:(ea b).1.length<=b.length:=Eh b;have o:Hid (dM b=oY (cU b).1 (ea b).1):=(by show _=_;unfold dM;rw [ae h0]);have HS:=ad Q.see;have bl:¬(((dF b).1:Nat):Int)=0:=(by omega);have HU:Hid (∀ n d,oY n d=if(ee d n).2=0 then(if(dU n (ee d n).1 []).2=0 then(if(dU n (ee d n).1 []).1.length<n then([],2)else((dU n (ee d n).1 []).1,0))else([],(dU n (ee d n).1 []).2))else([],(ee d n).2)):=fun _ _=>rfl;have V:=ad (fun W v (h:ai W eB v (ea b).1)=>QM v (ea b).1 (cU b).1 W h (az ak hl) (by omega));have a0:=GD (ea b).1 (cU b).1;have I:=ad (fun W v (h:ai W jp v (ee (ea b).1 (cU b).1).1)=>Sb v (ee (ea b).1 (cU b).1).1 (cU b).1 W h a0.2 (by omega) (by omega));obtain⟨pu,zu,rfl⟩:=Q.shape';rw [HU.out]at o;clear h0 Q HU a0 ak;generalize dM b=R at *;generalize (dF b).1=xw at *;generalize (cU b).1=q at *;generalize (dB b).1=xp at *;generalize (ea b).1=U at *;generalize ee U q=T at *;generalize dU q T.1 []=L at *;obtain⟨tl,X⟩:=T;obtain⟨Y,le⟩:=L;simp only at o V I;have c1:=af G 1 rfl;have c2:=af G 2 rfl;have c4:=af G 4 rfl;have a1:=ad (V.out w.drew _ HS.out.drew);clear V HS G;go_enter Tryz.func197, Tryz.ntmps197;go_wp2_with fail
  go_region_held3 (fun W => W.cell? ⟨F, 2, none⟩ = some (N q) ∧ W.cell? ⟨F, 4, none⟩ = some (.slice pu U.length zu))
    (first | exact Z | go_keep)
    ((go_at_call 231;refine a1.out.mono ?_;rintro e w1 ⟨v1,rfl,J,z⟩;obtain⟨p1,z1,bb⟩:=J.shape';subst bb;have Z:=And.intro (z.cell (show w.drew.cell? _=_ from c2)) (z.cell (show w.drew.cell? _=_ from c4))))
  have d2:=Z.1;have z:Fr w w1:=(Fr.refl w).drew.trans z;clear a1 Z;by_cases K:X=0
  · have A:=ad (o.out.trans (ag K));have m:((X:Nat):Int)=0:=(by omega);rw [m];have a3:=ad (I.out w1 _ J.see);clear o I K m J;go_wp2_with fail;refine(a3.out).mono ?_;rintro e w2 ⟨v2,rfl,M,a4⟩;obtain⟨p2,z2,rfl⟩:=M.shape';have d3:=a4.cell d2;have aa:=z.trans a4;clear a3;by_cases O:le=0
    · have D:=ad (A.out.trans (ag O));have m:((le:Nat):Int)=0:=(by omega);rw [m];have bd:=ad M;clear A O m M;by_cases h3:Y.length<q;· have ab:=ad (D.out.trans (ag h3));have i1:(Y.length:Int)<q:=(by omega);clear D;go_wp2_with fail;go_ret2;rw [ab.out];exact⟨_,rfl,ai.nil,aa⟩
      · have ab:=ad (D.out.trans (ae h3));have i1:¬(Y.length:Int)<q:=(by omega);clear D;go_wp2_with fail;go_ret2;rw [ab.out];exact⟨_,rfl,bd.out.see,aa⟩
    · have D:=ad (A.out.trans (ae O));have m:¬((le:Nat):Int)=0:=(by omega);clear A O M;go_wp2_with fail;go_ret2;rw [D.out];exact⟨_,rfl,ai.nil,aa⟩
  · have A:=ad (o.out.trans (ae K));have m:¬((X:Nat):Int)=0:=(by omega);clear o K J I;go_wp2_with fail;go_ret2;rw [A.out];exact⟨_,rfl,ai.nil,z⟩
theorem EW(v:Value)(b:List UInt8)(w:World)(z:ai w eB v b)(d:b.length<=1000000)(A:bK w) :
  Calls Tryz.prog 120 #[v] w fun e h=>∃ u,e=.returned (.tuple #[u,N (aT b).2.1,.int .i64 ((aT b).2.2:Int)])/\Ow h w.heap.size eB u (aT b).1/\Fr w h:=
 EV v b w z d A (az (Eg b) (by omega)) (fun F B base u W m o _ _ => by
  by_cases q : (dF b).1 = 0
  · exact Ek F B base u b W q m o
  · exact Qg F B base u b W d q m o)
end Go.Proofs.YtfpijnhhdfoohaaGreatDoor
