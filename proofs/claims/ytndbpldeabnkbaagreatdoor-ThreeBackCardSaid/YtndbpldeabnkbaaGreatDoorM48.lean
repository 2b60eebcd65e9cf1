/- Lemmas for ThreeTurned. -/
import Derived.Test.YtndbpldeabnkbaaGreatDoorM47
set_option linter.all false
set_option maxHeartbeats 8000000
set_option maxRecDepth 100000
namespace Go.Fk
abbrev q8:=@Int.eq_ofNat_of_zero_le
end Go.Fk
namespace Go.Proofs.YtndbpldeabnkbaaGreatDoor
open Go.RowKit Go.Fk
def Ec{l:List aq}(h:(decide (30<l.length) || decide ((2000:Int)<je 0 l))=false):gA l:=by
 simp only[Bool.or_eq_false_iff,sw]at h;have:=CK l 0 2000 ω ω;exact⟨ω,ω⟩
def VB(h m d q c:Nat)(p:Bool)(l:List aq)(o:ew ⟨(h:Int),p,(m:Int),(d:Int),(q:Int),(c:Int)⟩=true)(D:gA l)(F:d<=8)(R:q<=8)(G:q<=4*d)(I:4<=c)(J:c<=100)(v:Value)(W:World)(z:ah W eB v (bO h p m d q c (bt h m p l)))(A:cP W):(Calls Tryz.prog 10 #[v] W λe w'=>∃u,∃k:Nat,e=.returned (.tuple #[fq ⟨(h:Int),p,(m:Int),(d:Int),(q:Int),(c:Int)⟩,u,N k,.int .i64 0,.int .i64 0])/\Ow w' W.heap.size eR u l/\Fr W w') /\
  (Calls Tryz.prog 11 #[v] W λe w'=>∃u,e=.returned (.tuple #[u,.int .i64 0,.int .i64 0])/\Ow w' W.heap.size eB u (bO h p m d q c (bt h m p l))/\Fr W w') /\
  (Calls Tryz.prog 14 #[v] W λe w'=>e=.returned (.bool true)/\Fr W w'):=by
 have k3:=(kM _).1 o;simp only at k3;have K:=sf h m p l ω ω D;have L:=vr d q c (bt h m p l).length G I F J K;obtain⟨e1,e2,U,V,X,Y,Z⟩:=Dl h m d q c p l o D L;have hR:=(vM h m d q c p (bt h m p l) o ω L).1;have aj:=(ud h m d q c p (bt h m p l) ω ω ω ω ω ω).1;have hF:=IW h m d q c p (bt h m p l) ω ω F R G I J K;have M:=Jm v _ W z hF A;have O:=J3 v _ W z hF A;have Q:=Jk v _ W z A;rw[U,V,X,hR]at M;rw[Y]at O;rw[Z,bp ω]at Q;exact⟨M.mono λe w' ⟨u,a,b⟩=>⟨u,_,a,b⟩,O,Q⟩
def Wg(o:dV)(v:Value)(l:List aq)(w:World)(ht:cP w)(Y:ah w eR v l):Calls Tryz.prog 3 #[fq o,v] w λe w'=>e=.returned (.bool true)/\Fr w w':=by
 have HA:=ad (λW (h:Fr w W)=>Jc W (ht.fr h));have HG:=ad (λW (h:Fr w W)=>(show Calls Tryz.prog 6 #[v,.int .i64 30,.int .i64 2000] W (λe w'=>e=.returned (.bool (decide (30<l.length) || decide ((2000:Int)<je 0 l)))/\Fr W w')from JB v l W (Y.fr h) 30 2000 ω));have U:=ad (λW=>Jw o W);have HM:=ad (λ(h:ew o=true) W=>Ju o (((kM o).1 h).2.2.1) (((kM o).1 h).2.2.2.1) W);have HN:=ad (λ(h:ew o=false) W (h':Fr w W)=>Xd o h v l W (Y.fr h'))
 have Z : Hid ((decide (30 < l.length) || decide ((2000 : Int) < je 0 l)) = false → ew o = true → pJ o = true → ∃ V : List UInt8, (∀ W, Fr w W → Calls Tryz.prog 9 #[fq o, v] W fun e w' => ∃ u, e = .returned (.tuple #[u, .int .i64 0]) ∧ Ow w' W.heap.size eB u V ∧ Fr W w') ∧
     (∀u W, Fr w W → ah W eB u V → (Calls Tryz.prog 10 #[u] W λe w' => ∃u, ∃k : Nat, e = .returned (.tuple #[.agg #[.int .i64 o.b, .bool o.plain, .int .i64 o.bu, .int .i64 o.d, .int .i64 o.p, .int .i64 o.c], u, N k, .int .i64 0, .int .i64 0]) ∧ Ow w' W.heap.size eR u l ∧ Fr W w') ∧ (Calls Tryz.prog 11 #[u] W λe w' => ∃u, e = .returned (.tuple #[u, .int .i64 0, .int .i64 0]) ∧ Ow w' W.heap.size eB u V ∧ Fr W w') ∧ (Calls Tryz.prog 14 #[u] W λe w' => e = .returned (.bool true) ∧ Fr W w'))) := λhg ho hm => by
  have sm:=Ec hg
  have h3:=(kM o).1 ho
  obtain⟨L,J,M,O,op,Q⟩:=o
  simp only[pJ,fL,en]at hm
  simp only at h3
  obtain⟨m1,m2,m3,m4,m5⟩:=hm
  obtain⟨k1,k2,k3,k4,k5,k6,k7,k8,k9,dv⟩:=h3
  obtain⟨sz,rfl⟩:=q8 (show 0<=L by omega)
  obtain⟨bu,rfl⟩:=q8 (show 0<=M by omega)
  obtain⟨d,rfl⟩:=q8 (show 0<=O by omega)
  obtain⟨q,rfl⟩:=q8 k5
  obtain⟨c,rfl⟩:=q8 (show 0<=Q by omega)
  exact ⟨_, fun W h => Ck sz bu d q c J (by omega) (by omega) (by omega) (by omega) (by omega) (by omega) (by omega) (by omega) (by omega) (by omega) v l W (Y.fr h) sm (ht.fr h),
    λu W h h' => VB sz bu d q c J l ho sm ω ω ω ω ω u W h' (ht.fr h)⟩
 have HS:=ad (λu W (h:Fr w W) (h2:ah W eR u l) (hl:l.length<=1000000000)=>Jr u v l l W h2 (Y.fr h) hl);rw[show decide (l=l)=true from bp rfl]at HS;have HL:Hid ((decide (30<l.length) || decide ((2000:Int)<je 0 l))=false->l.length<=1000000000):=λh=>by have:=(Ec h).len;omega
 obtain⟨a0,dE,rfl,_⟩:=Y.shape;have K:Fr w (w.alloc (.cells #[.int .i64 o.b,.bool o.plain,.int .i64 o.bu,.int .i64 o.d,.int .i64 o.p,.int .i64 o.c] 23)):=(Fr.refl w).alloc _;have X:=ad (λW (h:Fr (w.alloc (.cells #[.int .i64 o.b,.bool o.plain,.int .i64 o.bu,.int .i64 o.d,.int .i64 o.p,.int .i64 o.c] 23)) W)=>Ef o h);clear Y ht;generalize pJ o=sm,ew o=o3,(decide (30<l.length) || decide ((2000:Int)<je 0 l))=G at *;obtain⟨L,J,M,O,op,Q⟩:=o;simp only at X Z;go_in;go_wp2_with fail;refine(HA.out _ K).mono ?_;rintro e w1 ⟨rfl,b4⟩;go_wp2_with fail;refine(HG.out _ (K.trans b4)).mono ?_;rintro e w2 ⟨rfl,cm⟩;have g2:=b4.trans cm;obtain⟨z,A,c2,D,F,I⟩:=X.out _ g2
 cases G with
 | true=>clear Z U HM HN HS HL;go_wp2;go_ret;exact⟨rfl,K.trans g2⟩
 | false=>
  cases o3 with
  | false=>rw[ae σ]at U;have cn:=ad (HN.out rfl);clear Z HM HN HS HL HA HG;go_wp2_with (first | (refine(U.out _).mono ?_;rintro e w3 ⟨rfl,a1⟩;have R:=g2.trans a1;clear z A c2 D F I;obtain⟨z,A,c2,D,F,I⟩:=X.out _ R));refine(cn.out _ (K.trans R)).mono ?_;rintro e w4 ⟨rfl,a2⟩;have g4:=R.trans a2;clear z A c2 D F I;obtain⟨z,A,c2,D,F,I⟩:=X.out _ g4;go_wp2_with (first | (refine(U.out _).mono ?_;rintro e w5 ⟨rfl,bd⟩));go_ret;exact⟨rfl,K.trans (g4.trans bd)⟩
  | true=>
   rw[af rfl]at U;have bf:=ad (HM.out rfl)
   cases sm with
   | false=>clear Z HM HN HS HL HA HG;go_wp2_with (first | (refine(U.out _).mono ?_;rintro e w3 ⟨rfl,a1⟩;have R:=g2.trans a1;clear z A c2 D F I;obtain⟨z,A,c2,D,F,I⟩:=X.out _ R) | (refine(bf.out _).mono ?_;rintro e w4 ⟨rfl,a2⟩));go_ret;exact⟨rfl,K.trans (R.trans a2)⟩
   | true=>obtain⟨V,b7,b8⟩:=Z.out rfl rfl rfl;have b9:=ad b7;have bA:=ad b8;have cp:=ad (HL.out rfl);have ef:(Tryz.prog.info? 23).map (·.size)=some aY.size:=(by kernel_rfl);have cq:(Tryz.prog.info? 23).map (·.size)=some (#[.int .i64 L,.bool J,.int .i64 M,.int .i64 O,.int .i64 op,.int .i64 Q]:Array Value).size:=(by kernel_rfl);have cs:(#[.int .i64 L,.bool J,.int .i64 M,.int .i64 O,.int .i64 op,.int .i64 Q]:Array Value).all (·.oneCell')=true:=(by rw[iI];rfl);clear Z HM HN HL HA HG b7 b8;go_wp2_with (first | (refine(U.out _).mono ?_;rintro e w3 ⟨rfl,a1⟩;have R:=g2.trans a1;clear z A c2 D F I;obtain⟨z,A,c2,D,F,I⟩:=X.out _ R) | (refine(bf.out _).mono ?_;rintro e w4 ⟨rfl,a2⟩;have g4:=R.trans a2;clear z A c2 D F I;obtain⟨z,A,c2,D,F,I⟩:=X.out _ g4));refine(b9.out _ (K.trans g4)).mono ?_;rintro e w5 ⟨u5,rfl,aC,bd⟩;have g5:=g4.trans bd;have ba:=ad (λW (h:Fr w5 W)=>bA.out u5 W ((K.trans g5).trans h) (aC.see.fr h));have bL:=aC.see;obtain⟨p5,z5,rfl⟩:=aC.shape';clear z A c2 D F I U bf b9 bA aC;go_wp2_with fail;refine((ba.out _ (Fr.refl _)).1).mono ?_;rintro e m ⟨u6,k6,rfl,bk,bb⟩;have bR:=bk.see;obtain⟨p6,z6,rfl⟩:=bk.shape';have bl:(m.alloc (.cells aY 23)).heap[m.heap.size]?=some (.cells aY 23 (0,0)):=aB _ _ _ rfl;have cu:=iq (m.alloc (.cells aY 23)) m.heap.size aY #[.int .i64 L,.bool J,.int .i64 M,.int .i64 O,.int .i64 op,.int .i64 Q] 23 (0,0) bl;have bT:=dl (m.alloc (.cells aY 23)) m.heap.size #[.int .i64 L,.bool J,.int .i64 M,.int .i64 O,.int .i64 op,.int .i64 Q];have a3:Fr m ((m.alloc (.cells aY 23)).setRow m.heap.size #[.int .i64 L,.bool J,.int .i64 M,.int .i64 O,.int .i64 op,.int .i64 Q]):=ai.below ((Fr.refl m).alloc _) bT ((Fr.refl m).alloc _).size (λk hk=>by have e:k=m.heap.size:=hk;omega);go_wp2_with (first | (refine fz rfl 23 (.tmp 7) (.tmp 52) rfl m.heap.size #[.int .i64 L,.bool J,.int .i64 M,.int .i64 O,.int .i64 op,.int .i64 Q] rfl rfl 23 _ bl cq rfl cs ?_));generalize e0:m.heap.size=R6 at *;generalize (m.alloc (.cells aY 23)).setRow R6 #[.int .i64 L,.bool J,.int .i64 M,.int .i64 O,.int .i64 op,.int .i64 Q]=w7 at *;have g7:=g5.trans (bb.trans a3);have ca:=ad (ba.out w7 (bb.trans a3)).2;clear bl bT;refine(ca.out.1).mono ?_;rintro e w8 ⟨e1,rfl,bn,a4⟩;have g8:=g7.trans a4;have cb:=bn.see;obtain⟨p8,z8,rfl⟩:=bn.shape';obtain⟨z,A,c2,D,F,I⟩:=X.out _ g8;have ac:=a4.heap cu;have d0:=ag ac 0 rfl;have d1:=ag ac 1 rfl;have d2:=ag ac 2 rfl;have d3:=ag ac 3 rfl;have d4:=ag ac 4 rfl;have d5:=ag ac 5 rfl;have cA:=ad (HS.out _ w8 (K.trans g8) (bR.fr (a3.trans a4)) cp.out);have cc:=ad (λW (h:Fr w8 W)=>sk _ _ V V W (cb.fr h) (bL.fr (((bb.trans a3).trans a4).trans h)));rw[show decide (V=V)=true from bp rfl]at cc;have cB:=ad (λW (h:Fr w8 W)=>(ba.out W (((bb.trans a3).trans a4).trans h)).2.2);clear HS bL bR cb bk bn ca ba;go_wp2_with (first | (apply cA.z;rintro e w9 ⟨rfl,bv⟩) | (refine(cc.out _ bv).mono ?_;rintro e wa ⟨rfl,rfl⟩) | (refine(cB.out _ bv).mono ?_;rintro e wb ⟨rfl,cE⟩));go_ret;exact⟨rfl,K.trans ((g8.trans bv).trans cE)⟩
