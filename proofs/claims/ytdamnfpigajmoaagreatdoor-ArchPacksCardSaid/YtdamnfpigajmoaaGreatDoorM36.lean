/- Parts of the proof of ArchPacks: T3 L5 Y7 L7. -/
import Derived.Test.YtdamnfpigajmoaaGreatDoorM35
import Derived.Test.YtdamnfpigajmoaaGreatDoorM21
import Derived.Test.YtdamnfpigajmoaaGreatDoorM17
import Derived.Test.YtdamnfpigajmoaaGreatDoorM12
import Derived.Test.YtdamnfpigajmoaaGreatDoorM18
import Derived.Test.YtdamnfpigajmoaaGreatDoorM14
import Derived.Test.YtdamnfpigajmoaaGreatDoorM19
set_option linter.unusedVariables false
set_option linter.unusedSectionVars false
set_option linter.unusedSimpArgs false
set_option maxHeartbeats 8000000
set_option maxRecDepth 100000
namespace Go.Fk
abbrev kJQb:=@List.mem_of_mem_drop
end Go.Fk
namespace Go.Proofs.YtdamnfpigajmoaaGreatDoor
open Go.RowKit Go.Fk
theorem E9(l:List UInt8)(n A k c:Nat)(e:0<c)(d:l.length<=n)(h:A+k*c<=n):cK (((kt l n).drop A).take (k*c)) c=de l c A k:=by
  have m:=tF l n d;have o:(((kt l n).drop A).take (k*c)).length=k*c:=(by rw [aV,bN,m];omega);have q:aC (k*c) c=k:=(by unfold aC;rw [show k*c+c - 1=c*k+(c - 1) by rw [fK];omega,Nat.mul_add_div e,lq (by omega),cX]);apply kL;· simp [cK,de,o,q]
  · intro j z y;rw [mq]at y;have:=cW c (show j+1<=k by omega);rw [cr,fJ]at this;simp only [cK,de,jw,kh];exact EB l n A (k*c) (j*c) c d h this
theorem qT{w w':World}{b:Nat}(h:w'.heap[b]? = w.heap[b]?)(e:b<w.heap.size):b<w'.heap.size:=by
 rcases Nat.lt_or_ge b w'.heap.size with d | d;· exact d
 · rw [oz d,Array.getElem?_eq_getElem e]at h;cases h
def q8:Value->Nat | .slice _ n _=>n | _=>0
theorem KW (k m c : Nat) (v : Value) (l : List UInt8) (w : World) (hv : af w eB v l) (c0 : 1 ≤ k) (h5 : k + m ≤ 255) (a6 : 1 ≤ c) (hc : c ≤ 4096) (hl : l.length ≤ 1000000) (hz : bG k c l.length * ((k + m) * (c + 4)) ≤ 16777216) (ht : bU w) :
    Calls Tryz.prog 38 #[N k,N m,N c,v] w fun e w'=>∃ v',e=.returned (.tuple #[v',.int .i64 0])/\Ow w' w.heap.size eB v' (dM l k m c (bG k c l.length))/\Fr w w':=by
  obtain⟨va,vc,rfl,k5,h7,k6⟩:=hv.shape;unfold maxLen at h7;have HS:=ad (Jl k m c l.length c0 h5 a6 hc);rw [(qA k m c l.length).1 (by omega) |>.1 hz]at HS;have HP:=ad (fun W dv hs ds (h:bY W aP eB dv hs ds) (O:ds.length=k) (T:∀ p∈ds,p.length=c)=>KG m dv hs ds c W h (by omega) (by omega) T (by omega));have h9:=ad (fun W pv p (h:af W eB pv p) (T:p.length<=1000000) (h3:bU W)=>nZ pv p W h T h3);have hC:=ad (xB k m c l.length c0 a6 (by omega) hc (by omega));have HD:=ad (xM k m c (by omega) hc);have k7:1*1<=k*c:=b7 c0 a6;have k8:k*c<=255*4096:=b7 (by omega) hc;have k9:bG k c l.length*(k*c)<=l.length+k*c:=(by unfold bG;have O:=Nat.div_mul_le_self (l.length+k*c - 1) (k*c);omega);have la:=jy (bG k c l.length) (k*c) (1000000+255*4096) (by omega) (by omega);have c4:l.length<=bG k c l.length*(k*c):=(by have:=fun h=>(xy k c l.length (by omega) (bG k c l.length)).2 h;omega);go_enter Tryz.func38, Tryz.ntmps38;go_wp2_with fail;refine(HS.out _).mono ?_;rintro e Q ⟨rfl,c5⟩;have ca:(Tryz.prog.info? 107).map (·.size)=some 3:=(by kernel_rfl);have e0:(#[N k,N m,N c]:Array Value).all (·.oneCell')=true:=(by rw [kj];rfl);have h3:=au Q (.cells #[.int .i64 0,.int .i64 0,.int .i64 0] 107) _ rfl;have a7:=qC _ _ #[N k,N m,N c] _ _ h3;have bv:Fr Q ((Q.alloc (.cells #[.int .i64 0,.int .i64 0,.int .i64 0] 107)).setRow Q.heap.size #[N k,N m,N c]):=ak.below ((Fr.refl Q).alloc _) (fP _ _ _) (by simp) (fun q hq=>by rw [hq];exact ag _);go_upto_region 5 with(refine gG rfl 107 (.tmp 12) (.tmp 35) rfl Q.heap.size #[N k,N m,N c] rfl rfl 107 _ h3 ca rfl e0 ?_);generalize (Q.alloc (.cells #[.int .i64 0,.int .i64 0,.int .i64 0] 107)).setRow Q.heap.size #[N k,N m,N c]=W at *;have cb:=c5.trans bv;have hg:w.heap.size<=Q.heap.size:=c5.size;generalize Q.heap.size=g at *;clear h3 e0 bv c5 HS;generalize hN:bG k c l.length=D at *;have HN:=ad hN;clear hN;have hE:=fun W=>mw eB rfl rfl 29 Tryz.underlying29 .i64 .i64 (D*(k*c)) (by omega) W;have a0:=ae a7 0 rfl;have a1:=ae a7 1 rfl;have a2:=ae a7 2 rfl;generalize ba:D*(k*c)=L at *;generalize hd:k*c=d at *;have cf:=ad ba;have ch:=ad hd;clear ba hd;have ln:¬(L:Int)<0:=by omega
  go_region_held3 (fun w' => w'.cell? ⟨g, 0, none⟩ = some (N k) ∧ w'.cell? ⟨g, 1, none⟩ = some (N m) ∧ w'.cell? ⟨g, 2, none⟩ = some (N c))
    (first | go_keep)
    ((first
      | (go_at_call 68; refine (hC.out _).mono ?_; rintro e R ⟨rfl, aj⟩; have b0 := aj.cell a0; have b1 := aj.cell a1; have b2 := aj.cell a2)
      | (go_at_call 69; refine (HD.out _).mono ?_; rintro e F ⟨rfl, bc⟩; have d0 := bc.cell b0; have d1 := bc.cell b1; have d2 := bc.cell b2)))
  have cj:Fr W F:=((Fr.drew (Fr.refl W)).trans aj).trans bc;have fb:=my (base:=w.heap.size) eB rfl rfl L (by omega) F (by have:=(cb.trans cj).size;exact this);have fc:=cj.alloc (.cells (madeCells #[eB.z] L) eB.e);have fd:=fc.heap a7;have cl:=cb.trans fc;have hJ:g<F.heap.size:=(by have:=(aR.1 (cj.heap a7)).1;exact this);have fk:=hv.fr cl;have lo:w.heap.size<=F.heap.size:=(cb.trans cj).size;have hK:l.length<=(List.replicate L eB.zero).length:=(by rw [lX];exact c4);clear d0 d1 d2 b0 b1 b2 a0 a1 a2 aj a7 cb hE;generalize F.alloc (.cells (madeCells #[eB.z] L) eB.e)=w4 at *;generalize F.heap.size=G at *;go_wp2_with (with_reducible refine BD rfl rfl (.tmp 44) (.tmp 45) 29 29 rfl Tryz.underlying29 _ _ _ _ rfl rfl fb fk hK ?_);intro J bx c7;have c8:l++List.replicate (L - l.length) eB.zero=kt l L:=(by unfold kt;rw [List.drop_replicate];rfl);first | rw [c8]at bx | (rw [List.drop_replicate,c8]at bx)
  have c9:=c7.heap fd (fun e=>by cases e;exact absurd hJ (Nat.lt_irrefl _));have fl:Fr w J:=(ak.below (B:=w.heap.size) cl c7 cl.size (fun q e=>by simp only [Value.ownBlock,iS]at e;omega));have fm:=bx.see;have hL:G<J.heap.size:=(bx.lt G rfl).2;clear bx c7 fb fk c8 cl fd;have fn:G+1<=J.heap.size:=(by have:=hL;omega);have lr:((D*((k+m)*(c+4)):Nat):Int)=((D*((k+m)*(c+4)):Nat):Int):=rfl;go_wp2_with (refine s7 eB rfl (.const (.int .i64 0)) (.tmp 47) 29 rfl Tryz.underlying29 .i64 .i64 _ (D*((k+m)*(c+4))) rfl rfl rfl (by omega) (G+1) fn ?_);intro w6 fr cm;have fs:w6.heap[g]? = some (.cells #[N k,N m,N c] 107 (0,0)):=(cm.block g (aR.1 c9).1 (by simp)).trans c9;have fv:Fr J w6:=Fr.own (Fr.refl J) cm (fun k e=>by cases e);have f0:=fl.trans fv;have bz:G<J.heap.size:=fn;have f1:w6.heap[G]? = J.heap[G]?:=cm.block G bz (by simp);have f2:=fm;clear fm c9 fl cm fv;have f3:=tF l L c4;generalize hZ:kt l L=Z at *;have HZ:=ad hZ;have hO:=ad f3;clear hZ f3;have hP:Hid (∀ s,s<D->cK ((Z.drop (s*d)).take d) c=de l c (s*d) k):=(by intro s hs;rw [<- HZ.out,<- ch.out];refine E9 l L _ k c (by omega) c4 ?_;have:=cW (k*c) (show s+1<=D by omega);rw [cr,fJ,ch.out,cf.out]at this;rw [ch.out];exact this);go_wp2_with fail;go_loopw [13,14] (fun av ov wr=>∃ (s n bd a3:Nat),s<=D/\Hid (n=(D - s)*d)/\av=.slice (some ⟨G,bd,none⟩) n a3/\wr.heap[G]? = J.heap[G]? /\ af J eB (.slice (some ⟨G,bd,none⟩) n a3) (Z.drop (s*d))/\Ow wr (G+1) eB ov (dM l k m c s)/\wr.heap[g]? = some (.cells #[N k,N m,N c] 107 (0,0))/\Fr w wr) (fun av _ _=>q8 av);case atStart=>exact⟨0,L,0,L,ap _,by show _=_;rw [<- cf.out,Nat.sub_zero],rfl,f1,by simpa using f2,fr,fs,f0⟩
  case round=>
    clear f2 fr fs f0 f1;obtain⟨s,n,bd,a3,hs,co,rfl,b3,ba,U,Y,V⟩:=hrel;by_cases hQ:s<D
    · have hA:s*d+d<=L:=(by have:=cW d (show s+1<=D by omega);rw [cr,fJ,cf.out]at this;exact this);have lt:d<=n:=(by rw [co.out];have:=cW d (show 1<=D - s by omega);omega);have hR:Hid (n - d=(D - (s+1))*d):=(by show _=_;rw [co.out,show D - s=(D - (s+1))+1 by omega,cr,fJ];omega);have hS:Hid (Z.drop ((s+1)*d)=(Z.drop (s*d)).drop d):=(by show _=_;rw [List.drop_drop,cr,fJ]);have hU:Hid (dM l k m c (s+1)=dM l k m c s++mm l k m c (s*d)):=(by show _=_;rw [<- ch.out];rfl);have hV:Hid ((dM l k m c s).length+(k+m)*(c+4)<=16777216):=(by show _<=_;rw [qY];have O:=cW ((k+m)*(c+4)) (show s+1<=D by omega);rw [cr,fJ]at O;omega);have hW:=ad (hP.out s hQ);have cG:(Z.drop (s*d)).length=n:=(by rw [bN,hO.out,co.out,Nat.sub_mul,cf.out]);generalize Z.drop (s*d)=I at *;generalize s*d=A at *;generalize dM l k m c s=cp at *;have f5:af wr eB (.slice (some ⟨G,bd,none⟩) n a3) I:=xL ba b3;have hX:=j9 eB 29 Tryz.underlying29 f5 d (by omega);obtain⟨hY,ia,ih,f6⟩:=tj eB 29 Tryz.underlying29 ba d (by omega);rw [cG]at ih f6;obtain⟨ij,da⟩:=hX;have lv:(0:Int)<n:=(by omega);have ca:(Tryz.prog.info? 107).map (·.size)=some 3:=(by kernel_rfl);have it:=ad cG;clear cG f5;have lz:g<wr.heap.size:=(aR.1 Y).1;have f7:G<wr.heap.size:=qT b3 bz;generalize wr=W at *;go_upto_region 9 with fail;go_wp2_with (first | (refine iQ rfl 107 (.tmp 12) rfl g rfl 107 #[N k,N m,N c] (0,0) _ Y Tryz.underlying107 rfl ca ?_));refine(HD.out _).mono ?_;rintro e R ⟨rfl,aj⟩;go_wp2_with fail;refine(Ia _ d a3 c a6 _).mono ?_;rintro e F ⟨rfl,cs⟩;have f9:F.heap[R.heap.size]? = some (.cells #[.slice (some ⟨G,bd,none⟩) d a3] 29 (0,0)):=(by rw [cs,gz _ _ _ (by simp)];exact au _ _ _ rfl);have dc:F.heap[R.heap.size+1]? = some (.cells #[N c] 3 (0,0)):=(by rw [cs];exact au _ _ _ (by simp));have bc:Fr R F:=(by rw [cs];exact((Fr.refl R).alloc _).alloc _);have ix:R.heap.size+1<F.heap.size:=(aR.1 dc).1;have b4:=aj.trans bc;have gb:=da.fr b4;have aa:(I.take d).length=d:=(by rw [aV,it.out];omega);obtain⟨y,a4,gc,ge⟩:=H8 R.heap.size (R.heap.size+1) _ (I.take d) c a6 (by omega) (by rw [aa];omega) F f9 dc gb;have i0:y=G/\a4=bd:=by
        rcases gc with h | ⟨l0,h⟩;· rw [h]at aa;simp at aa;omega
        · rw [aa]at h;simp only [ed,iS,Addr.mk.injEq,iR]at h;exact⟨h.1.1.symm,h.1.2.symm⟩
      obtain⟨rfl,rfl⟩:=i0;have gs := ad (Ht _ rfl _ _ R.heap.size (R.heap.size + 1) _ _ _ _ (fun ys h => h) F (by omega) ix (by
        rw [aa];unfold aC
        exact aq (jO _ _) (by omega)) ge)
      clear ge gc f9 dc cs ij;go_wp2_with fail;refine gs.out.mono ?_;rintro e w4 ⟨v4,rfl,dd,bv⟩;have ct:=b4.trans bv;have g0:af w4 eB (.slice (some ⟨y,a4,none⟩) (I.take d).length a3) (I.take d):=(by rw [aa];exact da.fr ct);have b5:=Hw (E:=eB) rfl a6 g0 dd.see;rw [hW.out]at b5;have bf:=ad (mq l c A k);have g1:(eO y a4 (I.take d).length c (aC (I.take d).length c)).length=k:=(by rw [b5.2.1];exact bf.out);have b8:=ad g1;clear g1;have g2:∀ i (h:i<(eO y a4 (I.take d).length c (aC (I.take d).length c)).length),∃ o n' c',(eO y a4 (I.take d).length c (aC (I.take d).length c))[i].v=.slice (some ⟨y,o,none⟩) n' c':=fun i h=>⟨a4+i*c,min c ((I.take d).length - i*c),min c ((I.take d).length - i*c),by simp [eO,iJ,Hd.v]⟩;have i2:=ad g2;clear g2;generalize eO y a4 (I.take d).length c (aC (I.take d).length c)=M at *;have g5:=ad (HP.out w4 v4 _ _ b5 bf.out (kO l c A k));have l2:=ad aa;clear aa gs g0;go_wp2_with fail;refine g5.out.mono ?_;rintro e w9 ⟨v9,rfl,ab,g7,di,cv⟩;have i3:=ad (tD m _ c (kO l c A k));have dj:=ad (tC m (de l c A k) c);have i4:Hid (dM l k m c (s+1)=cp++cN (de l c A k++jC m (de l c A k) c)):=(by show _=_;rw [hU.out,mm,Et]);have i5:=ad (kO l c A k);generalize de l c A k=z at *;generalize jC m z c=K at *;clear g5;have g8:=ad di.1;have bk:=ct.trans cv;have g9:=bv.trans cv;have bm:=dd.fr cv;have i6:M.length+ab.length<=2147483648:=(by rw [b8.out,g8.out,dj.out];omega);go_wp2_with (at_builtin;refine aN aP rfl (.tmp 65) (.tmp 66) 72 rfl Tryz.underlying72 F.heap.size rfl bm _ _ rfl g7.see i6 g9.size ?_);intro v7 w7 X;have hT:aP.e≠eB.e:=(by decide);have dl:=X.own;have gA:∀ q,q<F.heap.size->v4.ownBlock≠some q:=fun q hq e=>(by have:=(bm.lt q e).1;omega);have gB:w7.heap[y]? = J.heap[y]?:=(by rw [X.chg.block y (by have:=bk.size;omega) (fun e=>gA y (by have:=b4.size;omega) e.symm),mS bk y f7];exact b3);have gO:=X.chg'.heap (bk.heap Y) (fun e=>gA g (by have:=b4.size;omega) e);have hh:=b9 (U.fr bk) bm X hT;have dr:Fr w w7:=(X.below bm (V.trans bk) (by have:=(V.trans b4).size;omega) (V.trans bk).size);have hj:eb w7 w4.heap.size eB ab K u14:=(di.rows (fun b hb=>jN (U.lt b hb).2 ct.size)).beside bm X hT;obtain⟨i7,ji,hk⟩:=dl.shape';have d4:(M++ab).length=k+m:=(by rw [an,b8.out,g8.out,dj.out]);rw [d4]at hk;have hm:=ad d4;clear d4;subst hk;have ho:w4.heap[y]? = J.heap[y]?:=(mS ct y f7).trans b3;have hr:∀ (wr:World),wr.heap[y]? = J.heap[y]? -> ∀ i (O:i<M.length) (T:i<z.length),af wr eB M[i].v z[i]:=fun wr hb i O T=>(by obtain⟨o,n',c',he⟩:=i2.out i O;have:=b5.2.2 i O T;rw [he]at this ⊢;exact xL this (hb.trans ho.symm));have j0:=ad hr;have l6:cp.length+(k+m)*(c+4)<=16777216:=hV.out;have j1:bU w7:=ht.fr dr;have l9:F.heap.size<=w7.heap.size:=aq g9.size X.size;have ma:w4.heap.size<=w7.heap.size:=aq cv.size X.size;have hu:Hid (∀ p∈z++K,p.length=c):=fun p hp=>(ju.1 hp).elim (i5.out p) (i3.out p);have hw:Hid ((z++K).length=k+m):=(by show _=_;rw [an,bf.out,dj.out]);clear hr b5 X bm dd g7 di U Y b3 ba da gb ho j1;go_wp2_with fail;go_loopw [14,69] (fun ov iv wr=>∃ i:Nat,i<=k+m/\iv=N i/\wr.heap[y]? = J.heap[y]? /\ Ow wr (y+1) eB ov (cp++cN ((z++K).take i))/\eb wr w4.heap.size eB ab K ov/\Ow wr F.heap.size aP (.slice i7 (k+m) ji) (M++ab)/\wr.heap[g]? = some (.cells #[N k,N m,N c] 107 (0,0))/\Fr w wr) (fun _ iv _=>k+m - (intOf iv).toNat);case atStart=>exact⟨0,ap _,rfl,gB,by simpa [cN] using hh,hj,dl,gO,dr⟩
      case round=>
        clear gB hh hj dl gO dr;obtain⟨i,hi,rfl,bt,U,d7,d8,Y,V⟩:=hrel;by_cases hx:i<k+m
        · have mc:(i:Int)<(k:Int)+m:=(by omega);have mi:(i:Int)<((k+m:Nat):Int):=(by omega);have O:i<(M++ab).length:=(by rw [hm.out];exact hx);have T:i<(z++K).length:=(by rw [hw.out];exact hx);have d9:af wr eB (M++ab)[i].v (z++K)[i]:=by
            by_cases cx:i<M.length;· have dT:i<z.length:=(by rw [bf.out,<- b8.out];exact cx);rw [eW cx,eW dT];exact j0.out wr bt i cx dT
            · have dT:¬i<z.length:=(by rw [bf.out,<- b8.out];exact cx);rw [gu (by omega),gu (by omega)];have e:i - z.length=i - M.length:=(by rw [bf.out,b8.out]);simp only [e];exact(d7.2 (i - M.length) _ _).1.see
          have j2:Hid (cN ((z++K).take (i+1))=cN ((z++K).take i)++ay (z++K)[i]):=(by show _=_;rw [cL T,t5]);have j3:Hid ((cN ((z++K).take i)).length=i*(c+4)):=(by show _=_;rw [no _ c (fun p hp=>hu.out p (eD hp)),aV,gr (by omega)]);have ec:Hid ((z++K)[i].length=c):=hu.out _ (aH _);have mj:i*(c+4)+(c+4)<=(k+m)*(c+4):=(by have:=cW (c+4) (show i+1<=k+m by omega);rw [cr,fJ]at this;exact this);obtain⟨bb,oo,cc,hy,e1⟩:=d8.see.cell1 (fun(h:Hd)=>h.v) rfl i O;obtain⟨ra,rc,ef,_⟩:=d9.shape;rw [ec.out]at ef;rw [hm.out]at hy;generalize (M++ab)[i]=h at *;obtain⟨ha,hn,m1⟩:=h;simp only [Hd.v,ed]at ef;obtain⟨rfl,rfl,rfl⟩:=ef;simp only [Hd.v]at e1 d9;cases hy;have i1:(0:Int)<=i:=(by omega);have HC:=ad (h9.out wr _ _ d9 (by rw [ec.out];omega) (ht.fr V));generalize (z++K)[i]=pj at *;go_wp2_with fail;refine HC.out.mono ?_;rintro e ke ⟨m3,rfl,ki,ac⟩;have cy:=U.fr ac;have kl:(cp++cN ((z++K).take i)).length+(ay pj).length<=2147483648:=(by rw [an,fp,ec.out,j3.out];omega);have kn:y+1<=ke.heap.size:=(by have O:=ac.size;have T:y<wr.heap.size:=qT bt bz;omega);go_wp2_with (at_builtin;refine aN eB rfl (.tmp 73) (.tmp 75) 29 rfl Tryz.underlying29 (y+1) rfl cy _ _ rfl ki.see kl kn ?_);intro m4 h0 a5;have h4:∀ q,q<y+1->u14.ownBlock≠some q:=fun q hq e=>(by have:=(cy.lt q e).1;omega);have kq:h0.heap[y]? = J.heap[y]?:=(by rw [a5.chg.block y (by omega) (fun e=>h4 y (by omega) e.symm),mS ac y (qT bt bz)];exact bt);have kr:=a5.chg'.heap (ac.heap Y) (fun e=>h4 g (by omega) e);have ks:=(d7.fr ac).app a5;have kv:=tI (d8.fr ac) cy a5 hT;have kx:Fr w h0:=a5.below cy (V.trans ac) (by omega) (V.trans ac).size;go_wp2_with fail;go_roundw;case rel=>exact⟨i+1,by omega,by go_num,kq,by rw [j2.out];first | exact a5.own | (rw [<- eE];exact a5.own),ks,kv,kr,kx⟩
          case measure=>simp [intOf];omega
        · obtain rfl:i=k+m:=(by omega);have m5:¬(((k+m:Nat):Int)<((k+m:Nat):Int)):=(by omega);rw [eo (by rw [hw.out];exact ag _),<- i4.out]at U;clear d8 d7;go_wp2_with (first | (refine iQ rfl 107 (.tmp 12) rfl g rfl 107 #[N k,N m,N c] (0,0) _ Y Tryz.underlying107 rfl ca ?_));refine(HD.out _).mono ?_;rintro e m6 ⟨rfl,cz⟩;go_wp2_with fail;go_roundw;case rel=>exact⟨s+1,n - d,hY,ia,by omega,hR.out,rfl,(mS cz y (qT bt bz)).trans bt,by rw [hS.out];exact f6,U.fr cz,cz.heap Y,V.trans cz⟩
          case measure=>simp only [q8];omega
    · obtain rfl:s=D:=(by omega);obtain rfl:n=0:=(by rw [co.out,e8,Nat.zero_mul]);go_wp2_with fail;obtain⟨oa,oc,rfl⟩:=U.shape';exact b6Qb (v:=.tuple #[.slice oa (dM l k m c s).length oc,.int .i64 0]) (by simp [results,Tryz.results38,go_sem, *]) rfl ⟨_,rfl,by rw [HN.out];exact U.rebase (by omega),V⟩
def pp:al Tryz.prog Hd:=⟨347,1,24,⟨none,0,0⟩,.slice none 0 0,fun h=>[h.v],by kernel_rfl,by decide,by decide,by simp [Value.cells],fun _=>rfl,by intro x u d;simp at d;subst d;rfl⟩
def kV(d:List Nat)(s:Nat):Nat:=
 if(cE d).length=0 then 0
 else if(cE d).length=1 then(if s=(cE d).getD 0 0 then 1 else 0)
 else(bJ ((aJ (df d (cE d)) 14).take (2*(cE d).length - 2))).count s
def ei(L:Nat)(f:Nat->Nat):List UInt8:=(List.range L).map fun s=>UInt8.ofNat (f s)
def aY(d:List Nat):List UInt8:=ei d.length (kV d)
theorem nP(L:Nat)(f:Nat->Nat):(ei L f).length=L:=by simp [ei]
theorem nO(L:Nat):ei L (fun _=>0)=List.replicate L (0:UInt8):=by
 apply kL;· simp [ei]
 · intro i d e;simp [ei]
theorem rB(L:Nat)(f:Nat->Nat)(s c:Nat):(ei L f).set s (UInt8.ofNat c)=ei L (fun j=>if j=s then c else f j):=by
 apply pT;intro j;by_cases d:j<L
 · by_cases e:s=j;· subst e;rw [List.getElem?_set_self (by rw [nP];exact d)];simp [ei,d]
   · rw [List.getElem?_set_ne e];simp [ei,d,eT e]
 · rw [gJ (by simp [nP];omega),gJ (by rw [nP];omega)]
theorem nQ(L:Nat)(f f':Nat->Nat)(h:∀ s,f s=f' s):ei L f=ei L f':=by rw [show f=f' from funext h]
theorem wF(c:Nat):IntKind.u8.wrap (((UInt8.ofNat c).toNat:Int)+1)=((UInt8.ofNat (c+1)).toNat:Int):=by
  rw [km,jL,jL];omega
theorem KV (v : Value) (d : List Nat) (w : World) (m : af w eV v d) (hn : d.length ≤ 300) (f5 : ∀ x ∈ d, x < 4294967296) :
    Calls Tryz.prog 214 #[v,N 15] w fun e w'=>∃ v,e=.returned (.tuple #[v,.int .i64 0])/\Ow w' w.heap.size eB v (aY d)/\Fr w w':=by
  obtain⟨a,f6,rfl,hQ,f7,hR⟩:=m.shape
  unfold maxLen at f7
  have dl:=ad (Cb _ d w m (by omega))
  have dr:(cE d).length<=d.length:=by
    unfold cE
    rw [(o5 _ _ (qr d)).length_eq];exact wY d
  have ds:∀ s∈cE d,s<d.length:=fun s h=>sV d s ((o5 _ _ (qr d)).mem_iff.1 h)
  have HB:Hid (aY d=ei d.length (kV d)):=rfl
  have aj : Hid (∀ s, kV d s = if (cE d).length = 0 then 0
    else if (cE d).length = 1 then (if s = (cE d).getD 0 0 then 1 else 0)
    else (bJ ((aJ (df d (cE d)) 14).take (2 * (cE d).length - 2))).count s) := fun _ => rfl
  generalize aY d=RB at *
  generalize kV d=ln at *
  have ca:=ad ds
  have T:=ad dr
  clear dr
  clear ds
  generalize cE d=o at *
  have hS:¬(300:Int)<d.length:=by omega
  have hT:¬(32768:Int)<o.length:=by have:=T.out;omega
  have dv:=mw eB rfl rfl 29 Tryz.underlying29 .i64 .i64 d.length (by omega)
  go_enter Tryz.func214, Tryz.ntmps214
  go_wp2_with fail
  refine dl.out.mono ?_
  rintro e D ⟨sv,rfl,ba,M⟩
  obtain⟨sa,sc,rfl⟩:=ba.shape'
  have av:=ad (my (base:=w.heap.size) eB rfl rfl d.length (by omega) D M.size)
  have K:Hid (Fr D (D.alloc (.cells (madeCells #[eB.z] d.length) eB.e))):=(Fr.refl D).alloc _
  have d0:Hid ((D.alloc (.cells (madeCells #[eB.z] d.length) eB.e)).heap[D.heap.size]? = some (.cells (madeCells #[eB.z] d.length) 5 (0,0))):=au _ _ _ rfl
  generalize f9:madeCells #[eB.z] d.length=T0 at *
  clear f9
  rw [show(eB:al Tryz.prog UInt8).e=5 from rfl]at av K d0
  rw [show(eB:al Tryz.prog UInt8).e=5 from rfl]at dv
  have hU:=T.out
  rcases lT o.length 1 with h0 | z | Q
  · obtain rfl:o=[]:=ib (by omega)
    have HR:Hid (RB=List.replicate d.length (0:UInt8)):=by
      show _=_;rw [HB.out,<- nO];exact nQ _ _ _ fun s=>by rw [aj.out];rfl
    clear HB aj
    go_wp2_with fail
    go_ret2
    exact⟨_,rfl,by rw [HR.out];exact av.out,M.trans K.out⟩
  · obtain⟨O,rfl⟩:∃ O,o=[O]:=vO.1 z
    have d3:=ca.out O (by simp)
    have HR:Hid (RB=(List.replicate d.length (0:UInt8)).set O 1):=by
      show _=_
      rw [HB.out,<- nO]
      have:=rB d.length (fun _=>0) O 1
      rw [show(1:UInt8)=UInt8.ofNat 1 from rfl,this]
      exact nQ _ _ _ fun s=>by rw [aj.out];rfl
    obtain⟨b,d4,cp,a0,c0⟩:=iI (ba.see.fr K.out) 0 (by simp)
    have ch:=av.out
    obtain⟨d1,d2⟩:=ch.cellAt (fun c=>Fk.u8 c) rfl O (by simpa using d3)
    have cj:=ch.set (fun c=>Fk.u8 c) rfl O (by simpa using d3) 1 (.int .u8 1) rfl
    have cl:=db (i:=O) (u:=.int .u8 1) (M.trans K.out) M.size ((M.trans K.out).size)
    rw [World.setCell_alloc_at (w:=D) _ _ _ _ _ rfl]at cj cl
    have HS:=ad cj
    have bc:=ad cl
    clear cj cl
    have hY:=M.trans K.out
    cases a0
    simp only [mOQb,cX]at c0
    simp only [bg,fz,js]at *
    have i1:(0:Int)<=O:=by omega
    have i2:(O:Int)<d.length:=by omega
    clear HB aj ch av d0 K
    go_wp2_with fail
    go_ret2
    exact⟨_,rfl,by rw [HR.out];exact HS.out,bc.out⟩
  · have bz:=qW d o
    have b0:=yU d o
    have d8:=ad (xT (df d o) 14 (by rw [bz];have:=T.out;omega))
    have ge:Hid (∀ s,ln s=dR (df d o) 15 (2*o.length - 2) s):=fun s=>by
      rw [aj.out,ah (by omega),ah (by omega),Hh (df d o) b0 14 _ s (by have:=d8.out;rw [bz]at this;exact this)]
    have gs:=ad (yT (df d o) b0)
    have d9:=ad (fun W (z:af W eV (.slice a d.length f6) d) (Q:af W eJ (.slice sa o.length sc) o)=>FO _ _ d o W z Q (by omega) ca.out f5)
    have bd:=ad (fun r=>xS (df d o) r)
    have gv:Hid (∀ j (h:j<o.length),(df d o)[j]?.map (·.syms)=some [o[j]]):=fun j h=>by rw [qX d o j h];rfl
    clear aj
    have hZ:((o.length:Int) == 1)=false:=by simp;omega
    have ia:¬(o.length:Int)<2:=by omega
    have ih:¬o.length=1:=by omega
    have ij:(df d o).length<=300:=by omega
    have cm:=ad bz
    have g0:=ad b0
    clear bz b0
    generalize df d o=y at *
    have dT:=m.fr (M.trans K.out)
    have ec:=ba.see.fr K.out
    go_wp2_with fail
    refine(d9.out _ dT ec).mono ?_
    rintro e w3 ⟨it,rfl,cn,co⟩
    obtain⟨U,V,rfl⟩:=cn.shape'
    have ef:=ad (av.out.fr co)
    have ek:=ad ((ba.fr K.out).fr co)
    have bc:=ad ((M.trans K.out).trans co)
    clear dT ec av ba d9 K m dl dv
    go_wp2_with fail
    have cs:=ad (iC (base:=w.heap.size) pp w3 #[Value.slice U y.length V] [⟨U,y.length,V⟩] 1 rfl (by simp [maxLen]) bc.out.size rfl)
    have bk:Fr w3 (w3.alloc (.cells #[Value.slice U y.length V] 347)):=(Fr.refl w3).alloc _
    rw [show(pp:al Tryz.prog Hd).e=347 from rfl]at cs
    have es:=ad (ef.out.fr bk)
    have ev:=ad (ek.out.fr bk)
    have e0:=ad (bc.out.trans bk)
    have ct:=ad ((cn.rebase (M.trans ((Fr.refl D).alloc (.cells T0 5))).size).fr bk)
    clear ef ek bc cn
    generalize w3.alloc (.cells #[Value.slice U y.length V] 347)=w4 at *
    clear bk
    go_loopw [9] (fun X wr=>∃ (m:List Hd),1<=m.length/\m.length<=15/\Ow wr w.heap.size pp X m/\Hid (∀ t (h:t<m.length),Ow wr w.heap.size dh m[t].v (aJ y t))/\Hid (Ow wr w.heap.size dh (.slice U y.length V) y)/\Hid (Ow wr w.heap.size eB (.slice (some ⟨D.heap.size,0,none⟩) d.length d.length) (List.replicate d.length (0:UInt8)))/\Hid (Ow wr w.heap.size eJ (.slice sa o.length sc) o)/\Fr w wr) (fun X _=>16 - q8 X)
    case atStart => exact ⟨[⟨U, y.length, V⟩], by simp, by simp, cs.out, fun t h => by
      obtain rfl : t = 0 := by simpa using h
      exact ct.out, ct.out, es.out, ev.out, e0.out⟩
    case round=>
      clear cs es ev e0 ct
      obtain⟨m,iv,ix,a1,a2,b1,Y,bm,bn⟩:=hrel
      obtain⟨ra,rc,cv⟩:=a1.shape'
      by_cases g3:m.length<15
      · have g4:(m.length:Int)<15:=by omega
        obtain⟨b,d4,cp,a0,c0⟩:=a1.see.cell1 (fun h:Hd=>h.v) rfl (m.length - 1) (by omega)
        rw [cv]at a0
        cases a0
        have i0:IntKind.i64.wrap ((m.length:Int) - 1)=((m.length - 1:Nat):Int):=by rw [ar _ (by omega)];omega
        have e1:=a2.out (m.length - 1) (by omega)
        have cx:=ad (Fo (.slice U y.length V) _ y (aJ y (m.length - 1)) wr b1.out.see e1.see (by omega) (by have:=bd.out (m.length - 1);omega))
        have e2:Hid (bj y (bH (aJ y (m.length - 1)))=aJ y m.length):=by
          show _=_
          obtain⟨q,hq⟩:∃ q,m.length=q+1:=⟨m.length - 1,by omega⟩
          rw [hq];rfl
        rw [e2.out]at cx
        generalize m[m.length - 1]=J at *
        have i1:(0:Int)<=((m.length - 1:Nat):Int):=by omega
        have i2:((m.length - 1:Nat):Int)<m.length:=by omega
        have i6:m.length - 1<m.length:=by omega
        have g5:Hid (m.length+1<=15):=g3
        clear e1
        subst cv
        generalize m.length - 1=k1 at *
        go_wp2_with fail
        refine cx.out.mono ?_
        rintro e w5 ⟨nv,rfl,cy,a3⟩
        obtain⟨na,nc,rfl⟩:=cy.shape'
        have c6:=bn.trans a3
        have Z:=a1.fr a3
        have g7:=ad (fun t (h:t<m.length)=>(a2.out t h).fr a3)
        have g8:=ad (b1.out.fr a3)
        have g9:=ad (Y.out.fr a3)
        have gA:=ad (bm.out.fr a3)
        have gB:=ad (cy.rebase bn.size)
        clear a1 a2 b1 Y bm cy bn cx e2 c0
        go_wp2_with (at_builtin;refine aM pp rfl (.tmp 57) (.tmp 66) 349 rfl Tryz.underlying349 w.heap.size rfl Z [⟨na,(aJ y m.length).length,nc⟩] _ _ _ rfl rfl rfl (by simp;omega) c6.size ?_)
        intro v' w6 aa
        have e5:=aa.own
        obtain⟨va,vc,ha⟩:=e5.shape'
        have hb:Hid (∀ t (h:t<(m++[(⟨na,(aJ y m.length).length,nc⟩:Hd)]).length),Ow w6 w.heap.size dh (m++[(⟨na,(aJ y m.length).length,nc⟩:Hd)])[t].v (aJ y t)):=fun t h=>by
          by_cases ht:t<m.length
          · rw [eW ht]
            exact b9 (g7.out t ht) Z aa (by decide)
          · obtain rfl:t=m.length:=by simp at h;omega
            rw [gu (ag _)]
            simp only [e8,mOQb]
            exact b9 gB.out Z aa (by decide)
        have hd:=ad (b9 g8.out Z aa (by decide))
        have he:=ad (b9 g9.out Z aa (by decide))
        have hf:=ad (b9 gA.out Z aa (by decide))
        subst ha
        go_wp2_with fail
        go_roundw
        case rel=>exact⟨_,by simp,by simpa using g5.out,e5,hb,hd,he,hf,aa.below Z c6 (ag _) c6.size⟩
        case measure=>simp [q8];omega
      · have hh:m.length=15:=by omega
        have g4:¬(m.length:Int)<15:=by omega
        subst cv
        generalize wr=wm at *
        have hg:w.heap.size<=D.heap.size:=M.size
        -- what stays while bytes count
        have e6:Hid (∀ W,ak (fun k=>k=D.heap.size) wm W->∀ t (h:t<m.length),af W dh m[t].v (aJ y t)):=fun W I t h=>
          ((a2.out t h).chg I fun k J e => by
            rw [e] at J
            rcases iB (a2.out t h) Y.out (by decide) with z | z
            · rw [z] at J; cases J
            · exact z J).see
        have hm:Hid (∀ W,ak (fun k=>k=D.heap.size) wm W->af W eJ (.slice sa o.length sc) o):=fun W I=>
          (bm.out.chg I fun k J e => by
            rw [e] at J
            rcases iB bm.out Y.out (by decide) with z | z
            · rw [z] at J; cases J
            · exact z J).see
        have ho:Hid (∀ W,ak (fun k=>k=D.heap.size) wm W->af W pp (.slice ra m.length rc) m):=fun W I=>
          (a1.chg I fun k J e => by
            rw [e] at J
            rcases iB a1 Y.out (by decide) with z | z
            · rw [z] at J; cases J
            · exact z J).see
        have c8:=Y.out
        rw [<- nO]at c8
        have e7:2*o.length - 2<=(aJ y 14).length:=by have:=d8.out;rw [cm.out]at this;exact this
        have e9:=ad e7
        have hr:=ad (fun q t h=>yT y g0.out q t h)
        have j2:IntKind.i64.wrap (2*(o.length:Int))=((2*o.length:Nat):Int):=by rw [ar _ (by have:=T.out;omega)];omega
        have j3:IntKind.i64.wrap (((2*o.length:Nat):Int) - 2)=((2*o.length - 2:Nat):Int):=by rw [ar _ (by have:=T.out;omega)];omega
        have j4:o.length<=d.length:=T.out
        clear e7 a2 b1 Y bm gs
        generalize 2*o.length - 2=t0 at *
        generalize 2*o.length=t1 at *
        go_wp2_with fail
        go_loopw [10,11] (fun tv X wr=>∃ (q t:Nat) (R:Nat->Nat),q<=15/\X=.int .i64 ((q:Int) - 1)/\tv=N t/\t<=1200/\Hid (0<q->t<=(aJ y (q - 1)).length)/\Ow wr w.heap.size eB (.slice (some ⟨D.heap.size,0,none⟩) d.length d.length) (ei d.length R)/\Hid (∀ s,ln s=R s+dR y q t s)/\ak (fun k=>k=D.heap.size) wm wr) (fun _ X _=>(intOf X+1).toNat)
        case atStart=>exact⟨15,t0,fun _=>0,ag _,by first | rfl | (rw [hh];rfl),by first | rfl | go_num,by have z:=e9.out;have Q:=bd.out 14;omega,fun _=>e9.out,c8,fun s=>by rw [js];exact ge.out s,ak.refl _ _⟩
        case round=>
          clear c8
          obtain⟨q,t,R,hq,rfl,rfl,ht,HT,hO,HF,I⟩:=hrel
          rcases lU q with rfl | hp
          · have a5:¬(0:Int)<=((0:Nat):Int) - 1:=by omega
            have HE:Hid (RB=ei d.length R):=by
              show _=_;rw [HB.out];exact nQ _ _ _ fun s=>by rw [HF.out s];simp [dR]
            clear HT HF
            go_wp2_with fail
            go_ret2
            exact⟨_,rfl,by rw [HE.out];exact hO,ak.below bn I bn.size (fun i hi=>by rw [hi];exact hg)⟩
          · obtain⟨r,rfl⟩:∃ r,q=r+1:=⟨q - 1,by omega⟩
            have bt:=HT.out hp
            simp only [Nat.add_sub_cancel]at bt
            have er:((r+1:Nat):Int) - 1=(r:Int):=by omega
            rw [er]
            have kc:(0:Int)<=(r:Int):=by omega
            have cA:r<m.length:=by omega
            have ke:(r:Int)<m.length:=by omega
            have ki:IntKind.i64.wrap ((r:Int) - 1)=(r:Int) - 1:=ar _ (by omega)
            obtain⟨b,d4,cp,a0,c0⟩:=(ho.out _ I).cell1 (fun h:Hd=>h.v) rfl r cA
            cases a0
            have b5:=e6.out _ I r cA
            obtain⟨xa,xc,da,kl,kn,_⟩:=b5.shape
            rw [da]at c0 b5
            obtain⟨h7,h8⟩:=j9 dh 347 Tryz.underlying347 b5 t bt
            have kq:=ad h7
            have b8:=hr.out r t bt
            have h9:Hid (t<=600):=by show _<=_;have:=bd.out r;omega
            have fc:Hid (∀ s,ln s=R s+((bJ (y.take (bq ((aJ y r).take t)))).count s+dR y r (2*(t - bq ((aJ y r).take t))) s)):=fun s=>HF.out s
            have hC:Hid (∀ W,ak (fun k=>k=D.heap.size) wm W->af W dh (.slice xa t xc) ((aJ y r).take t)):=fun W h=>by
              have:=e6.out W h r cA
              rw [da]at this
              exact(j9 dh 347 Tryz.underlying347 this t bt).2
            clear da b5 h8 HT HF er
            have fd:((aJ y r).take t).length=t:=by rw [aV];omega
            generalize hD:(aJ y r).take t=A at *
            have fk:=fd
            have bu:=ad fk
            have kr:t<=xc:=by omega
            clear fd fk bt hD
            go_wp2_with fail
            generalize wr=wq at *
            go_loopw [12,86] (fun nv jv wr=>∃ (j:Nat) (F:Nat->Nat),j<=t/\jv=N j/\nv=N (bq (A.take j))/\Ow wr w.heap.size eB (.slice (some ⟨D.heap.size,0,none⟩) d.length d.length) (ei d.length F)/\Hid (∀ s,F s=R s+(bJ (y.take (bq (A.take j)))).count s)/\ak (fun k=>k=D.heap.size) wm wr) (fun _ jv _=>t - (intOf jv).toNat)
            case atStart=>exact⟨0,R,ap _,rfl,rfl,hO,fun s=>by simp [bq,bJ],I⟩
            case round=>
              clear hO I
              obtain⟨j,F,hj,rfl,rfl,hO,HG,I⟩:=hrel
              by_cases hE:j<t
              · have kx:(j:Int)<t:=by omega
                have fl:j<A.length:=by rw [bu.out];exact hE
                obtain⟨b2,k0,k2,fm,c1,c2⟩:=nG (hC.out _ I) j fl
                rw [bu.out]at fm
                cases fm
                have a6:=ad (FP A j fl)
                have fn:=ad (FQ A (j+1) t (by omega))
                rw [show A.take t=A by rw [<- bu.out,cu]]at fn
                generalize A[j]=x at *
                have i1:(0:Int)<=j:=by omega
                have hA:Fr wr (wr.alloc (.cells #[.int .u64 (x.w.toNat:Int),.bool x.leaf] 352)):=(Fr.refl wr).alloc _
                have hB:(wr.alloc (.cells #[.int .u64 (x.w.toNat:Int),.bool x.leaf] 352)).heap[wr.heap.size]? = some (.cells #[.int .u64 (x.w.toNat:Int),.bool x.leaf] 352 (0,0)):=au _ _ _ rfl
                have c3:(wr.alloc (.cells #[.int .u64 (x.w.toNat:Int),.bool x.leaf] 352)).cell? ⟨wr.heap.size,1,none⟩=some (.bool x.leaf):=by rw [aL hB];rfl
                clear hB
                have di:=hO.fr hA
                have dj:=I.trans (hA.chg (fun k=>k=D.heap.size)) (fun _ _ h=>h)
                clear hO I hA
                go_upto_region 23 with fail
                generalize wr.alloc (.cells #[.int .u64 (x.w.toNat:Int),.bool x.leaf] 352)=wx at *
                by_cases bA:x.leaf=true
                · rw [ai bA]at a6
                  have a5:bq (A.take j)<o.length:=by have z:=fn.out;have Q:=b8.2.1;have h3:=a6.out;have h4:=cm.out;omega
                  obtain⟨b4,k7,k8,hH,c4⟩:=iI (hm.out _ dj) (bq (A.take j)) a5
                  cases hH
                  have dk:=ca.out _ (aH a5)
                  have f0:Hid (∀ s,(bJ (y.take (bq (A.take j)+1))).count s=(bJ (y.take (bq (A.take j)))).count s+if o[bq (A.take j)]=s then 1 else 0):=fun s=>by
                    have z:=gv.out _ a5
                    have f1:bq (A.take j)<y.length:=by rw [cm.out];exact a5
                    rw [bo f1]at z
                    rw [CB y _ f1 _ (ez z),ow,List.count_singleton]
                    simp
                  have f2:Hid (bq (A.take (j+1))=bq (A.take j)+1):=a6.out
                  generalize o[bq (A.take j)]=G at *
                  generalize bq (A.take j)=L at *
                  have bB:=nP d.length F
                  obtain⟨d1,d2⟩:=di.cellAt (fun c=>Fk.u8 c) rfl G (by rw [bB];exact dk)
                  have f3:(ei d.length F)[G]'(by rw [bB];exact dk)=UInt8.ofNat (F G):=by simp [ei]
                  rw [f3]at d1
                  replace d1:wx.cell? ⟨D.heap.size,G,none⟩=some (.int .u8 ((UInt8.ofNat (F G)).toNat:Int)):=d1
                  have lo:=wF (F G)
                  have f4:=ad (di.set (fun c=>Fk.u8 c) rfl G (by rw [bB];exact dk) (UInt8.ofNat (F G+1)) (.int .u8 ((UInt8.ofNat (F G+1)).toNat:Int)) rfl)
                  rw [rB]at f4
                  have hI:Hid (∀ s,(if s=G then F G+1 else F s)=R s+(bJ (y.take (L+1))).count s):=fun s=>by
                    rw [f0.out s]
                    by_cases e:s=G
                    · subst e;rw [ai rfl,ai rfl,HG.out s];omega
                    · rw [ah e,ah (eT e),HG.out s];omega
                  have lr:=kH (UInt8.ofNat (F G))
                  clear HG f0 f3 bB
                  have i2:(0:Int)<=L:=by omega
                  have i3:(L:Int)<o.length:=by omega
                  have i4:(0:Int)<=G:=by omega
                  have i5:(G:Int)<d.length:=by omega
                  have l0:IntKind.i64.wrap ((L:Int)+1)=((L+1:Nat):Int):=by rw [ar _ (by have:=T.out;omega)];omega
                  rw [bA]at c3
                  generalize (UInt8.ofNat (F G)).toNat=l1 at *
                  generalize (UInt8.ofNat (F G+1)).toNat=l2 at *
                  go_wp2_with fail
                  go_roundw
                  case rel=>exact⟨j+1,(fun s=>if s=G then F G+1 else F s),by omega,by go_num,by rw [f2.out];first | rfl | go_num,f4.out,by rw [f2.out];exact hI.out,dj.trans (aw wx _ _) (fun _ _ h=>h)⟩
                  case measure=>simp [intOf];omega
                · have hJ:x.leaf=false:=by simpa using bA
                  rw [ah bA,cX]at a6
                  rw [hJ]at c3
                  go_wp2_with fail
                  go_roundw
                  case rel=>exact⟨j+1,F,by omega,by go_num,by rw [a6.out];exact rfl,di,by rw [a6.out];exact HG.out,dj⟩
                  case measure=>simp [intOf];omega
              · obtain rfl:j=t:=by omega
                have a5:¬((j:Int)<j):=by omega
                have hK:A.take j=A:=by rw [<- bu.out,cu]
                rw [hK]at HG ⊢
                have z:=b8.1
                have Q:=b8.2.2
                generalize bq A=L at *
                have l3:IntKind.i64.wrap ((j:Int) - L)=((j - L:Nat):Int):=by rw [ar _ (by omega)];omega
                have l4:IntKind.i64.wrap (2*((j - L:Nat):Int))=((2*(j - L):Nat):Int):=by rw [ar _ (by omega)];omega
                have K:Hid (∀ s,ln s=F s+dR y r (2*(j - L)) s):=fun s=>by rw [fc.out s,HG.out s];omega
                have H2:=ad Q
                have hM:2*(j - L)<=1200:=by
                  rcases lU r with e | e
                  · have:=bd.out 0;subst e;have h4:=bu.out;have h5:=h9.out;omega
                  · have:=Q e;have h6:=bd.out (r - 1);omega
                clear HG fc b8 Q
                generalize 2*(j - L)=t2 at *
                generalize j - L=t3 at *
                go_wp2_with fail
                go_roundw
                case rel=>exact⟨r,t2,F,by omega,by first | rfl | go_num,by first | rfl | go_num,hM,H2.out,hO,K,I⟩
                case measure=>simp [intOf]
theorem GZ(d:List It)(s:Nat):∀ r t,kY d r t s<=(r+1)*(bJ d).count s:=by
 have e:∀ k,(bJ (d.take k)).count s<=(bJ d).count s:=fun k=>by
  conv=>rhs;rw [<- kI k d,sX,ow]
  omega
 intro r
 induction r with
 | zero=>intro t;have:=e (bq ((aJ d 0).take t));rw [kY];omega
 | succ r h=>intro t;rw [kY];have m:=e (bq ((aJ d (r+1)).take t));have o:=h (2*(t - bq ((aJ d (r+1)).take t)));rw [cr (r+1) 1];omega
theorem CC(d:List Nat):∀ l:List Nat,bJ (df d l)=l:=by
 intro l
 induction l with
 | nil=>rfl
 | cons x l e=>show bJ (_::df d l)=_;rw [ml,e];rfl
theorem wX(d:List Nat):(iW d).Pairwise (·<·):=by
 unfold iW;exact List.pairwise_lt_range.filter _
theorem FM(d:List Nat)(s:Nat):kV d s<=15:=by
 unfold kV;split;· omega
 · split;· split <;> omega
   · have q:(cE d).count s<=1:=(by have m:=o5 (fun s=>d.getD s 0) (iW d) (wX d);unfold cE;rw [m.count_eq];exact List.nodup_iff_count.1 ((wX d).imp fun {a b} h e=>by omega) s);generalize 2*(cE d).length - 2=t;have o:=yU d (cE d);have e:(aJ (df d (cE d)) 14).take t=(aJ (df d (cE d)) 14).take (min t (aJ (df d (cE d)) 14).length):=by
      rcases Nat.le_total t (aJ (df d (cE d)) 14).length with h | h;· rw [gr h]
      · rw [pO h,eo h,cu]
     rw [e,zF _ o s 14 _ (Nat.min_le_right _ _)];have:=GZ (df d (cE d)) s 14 (min t (aJ (df d (cE d)) 14).length);rw [CC]at this;omega
theorem oR(d:List Nat):(aY d).length=d.length:=nP _ _
theorem oS(d:List Nat):∀ c∈aY d,c.toNat<=15:=by
 intro c e;unfold aY ei at e;obtain⟨s,_,rfl⟩:=gt.1 e;have:=FM d s;rw [jL];omega
def iq(w:World)(base:Nat)(d:List gp):Prop:=∀ m∈d,Ow w base eJ m.hd.v m.it.syms
theorem iq.fr{w w':World}{base:Nat}{d:List gp}(h:iq w base d)(e:Fr w w'):iq w' base d:=fun m o=>(h m o).fr e
theorem iq.rebase{w:World}{base b:Nat}{d:List gp}(h:iq w base d)(e:b<=base):iq w b d:=fun m o=>(h m o).rebase e
theorem iq.app{w w':World}{base b:Nat}{d l e:List gp}{v v':Value}(h:iq w base d)(o:Ow w b dO v l)(q:cQ b dO e w v v' w'):iq w' base d:=fun m y=>b9 (h m y) o q (by decide)
theorem iq.snoc{w:World}{base:Nat}{e:List gp}{x:gp}(h:iq w base e)(o:Ow w base eJ x.hd.v x.it.syms):iq w base (e++[x]):=fun m d=>by
 rcases ju.1 d with d | d
 · exact h m d
 · rw [lu.1 d];exact o
def dU(d:List Nat)(k:Nat):List Nat:=(iX d k).foldl (gN fun s=>d.getD s 0) []
theorem Cf(d:List Nat):dU d d.length=cE d:=rfl
theorem Cc(d:List Nat)(k:Nat)(h:k<d.length):dU d (k+1)=if 0<d[k]then gN (fun s=>d.getD s 0) (dU d k) k else dU d k:=by
 unfold dU;rw [wZ d k h];split;· rw [mP];rfl
 · rfl
theorem Ey(key:Nat->Nat)(l:List Nat)(x:Nat):(gN key l x).length=l.length+1:=by rw [(t6 key l x).length_eq];rfl
theorem Ce(e:List Nat)(k:Nat):(dU e k).length<=k:=by
 unfold dU;have:∀ (l d:List Nat),(l.foldl (gN fun s=>e.getD s 0) d).length=d.length+l.length:=by
  intro l
  induction l with
  | nil=>intro d;rfl
  | cons x l h=>intro d;rw [List.foldl_cons,h,Ey,bg];omega
 rw [this];have:=xd e k;simpa using this
theorem Ex(key:Nat->Nat)(l:List Nat)(x y:Nat):y∈gN key l x↔y=x\/y∈l:=by rw [(t6 key l x).mem_iff,fy]
theorem Cd(m:List Nat)(k:Nat):∀ s∈dU m k,s<k:=by
 unfold dU;have:∀ (l e:List Nat),(∀ s∈e,s<k)->(∀ s∈l,s<k)->∀ s∈l.foldl (gN fun s=>m.getD s 0) e,s<k:=by
  intro l
  induction l with
  | nil=>intro e h _;exact h
  | cons x l q=>
   intro e y o;refine q _ (fun s d=>?_) fun s d=>o s (by simp [d]);rcases(Ex _ _ _ _).1 d with rfl | d;· exact o s (by simp)
   · exact y s d
 exact this _ [] (by simp) fun s d=>kg.1 (List.mem_filter.1 d).1
theorem GT(rs:List gp)(i:Nat)(h:rs.length<=i+1):bH ((rs.drop i).map (·.it))=[]:=by
 have d:(rs.drop i).length<=1:=by rw [bN];omega
 generalize rs.drop i=r at *
 match r,d with
 | [],_=>rfl
 | [_],_=>rfl
theorem AY (v : Value) (d : List Nat) (w : World) (hs : af w eV v d) (hn : d.length ≤ 300) (g3 : ∀ x ∈ d, x < 4294967296) :
    Calls Tryz.prog 174 #[v,N 15] w fun e w'=>∃ v,e=.returned (.tuple #[v,.int .i64 0])/\Ow w' w.heap.size eB v (aY d)/\Fr w w':=by
  obtain⟨a,pg,rfl,ph,it,pi⟩:=hs.shape;unfold maxLen at it;have pj:¬(300:Int)<d.length:=(by omega);have HB:Hid (aY d=ei d.length (kV d)):=rfl
  have bR : Hid (∀ s, kV d s = if (cE d).length = 0 then 0
    else if (cE d).length = 1 then (if s = (cE d).getD 0 0 then 1 else 0)
    else (bJ ((aJ (df d (cE d)) 14).take (2 * (cE d).length - 2))).count s) := fun _ => rfl
  generalize aY d=RB at *;generalize kV d=ln at *;go_enter Tryz.func174, Tryz.ntmps174;go_wp2_with fail;go_loopw [6,7] (fun R F wr=>∃ (k:Nat) (o:List gp),k<=d.length/\F=N k/\Ow wr w.heap.size dO R o/\Hid (o.map (·.it)=df d (dU d k))/\Hid (iq wr w.heap.size o)/\Fr w wr) (fun _ F _=>d.length - (intOf F).toNat);case atStart=>exact⟨0,[],ap _,rfl,Ow.nil,rfl,ad (fun m h=>by simp at h),Fr.refl w⟩
  case round=>
    obtain⟨k,o,T,rfl,cl,a5,dd,hf⟩:=hrel;obtain⟨la,lc,cm⟩:=cl.shape';have g4:o.length=(dU d k).length:=(by have:=fX List.length a5.out;rw [dQ,qW]at this;exact this);have ji:=Ce d k;have jv:o.length<=300:=(by omega);have U:=ad g4;clear g4 ji;by_cases di:k<d.length
    · obtain⟨b,e3,cp,bd,I⟩:=o4 (hs.fr hf) k di;have dj:=ad (Cc d k di);have pk:=g3 _ (aH di);have g5:d.getD k 0=d[k]:=(by rw [cD,bo di];rfl);generalize d[k]=x at *;cases bd;have i1:(0:Int)<=k:=(by omega);have i2:(k:Int)<d.length:=(by omega);by_cases hx:0<x
      · have j1:((x:Int) == 0)=false:=(by simp;omega);have g9:x≠0:=(by omega);have e6:Hid (dU d (k+1)=gN (fun s=>d.getD s 0) (dU d k) k):=(by show _=_;rw [dj.out,ai hx]);have pm:IntKind.u64.wrap (x:Int)=x:=aX _ (by omega);have e7:Hid (∀ q (h:q<o.length),((o[q].it.w.toNat:Int)=(d.getD ((dU d k).getD q 0) 0:Nat))/\d.getD ((dU d k).getD q 0) 0<4294967296):=fun q h=>(by have D:=fX (fun l=>l[q]?) a5.out;simp only [List.getElem?_map,bo h,Option.map_some]at D;have hq:q<(dU d k).length:=(by have:=U.out;omega);rw [qX d _ q hq]at D;have h2:=ez D;have pn:=Cd d k _ (aH hq);have e1:(dU d k).getD q 0=(dU d k)[q]:=(by rw [cD,bo hq];rfl);have j2:d.getD ((dU d k)[q]) 0<4294967296:=(by rw [cD,bo (by omega)];exact g3 _ (aH _));rw [e1,h2];refine⟨?_,j2⟩;show((UInt64.ofNat (d.getD (dU d k)[q] 0)).toNat:Int)=_;rw [pK];omega);clear dj;generalize gA:(fun i=>decide ((fun s=>d.getD s 0) k<(fun s=>d.getD s 0) ((dU d k).getD i 0)))=fd at *;have gB:=ad gA;clear gA;generalize wr=wo at *;subst cm;go_wp2_with fail;go_loopw [8] (fun av wr=>∃ (q:Nat),av=N q/\q<=o.length/\Hid (fH fd o.length=fH fd q)/\∃ r,wr=wo.drewN r) (fun av _=>(intOf av).toNat);case atStart=>exact⟨o.length,rfl,ag _,rfl,0,rfl⟩
        case round=>
          obtain⟨q,rfl,hq,HD,r,rfl⟩:=hrel;have V:=(Fr.refl wo).drewN r;have X:=cl.fr V;have a1:=hf.trans V;have bk:=ad (dd.out.fr V);replace I:=V.cell I;have cs:Hid (fH fd o.length=q->df d (dU d (k+1))=(o.take q).map (·.it)++⟨UInt64.ofNat x,true,[k]⟩::(o.drop q).map (·.it)):=fun e=>(by rw [e6.out];unfold gN;rw [<- U.out,gB.out,e,List.map_take,List.map_drop,a5.out];unfold df;rw [fN,List.map_take,fL,List.map_drop,g5]);obtain⟨dk,gO⟩:=j9 dO 310 Tryz.underlying310 X.see q hq;obtain⟨fa,fc,ha,hb⟩:=kp dO 310 Tryz.underlying310 X.see q hq;have fb:=ad dk;have fk:=ad ha;have bv:=ad gO;have bx:=ad hb;have hd:(o.take q).length=q:=(by rw [aV];omega);have he:(o.drop q).length=o.length - q:=bN;have cb:=ad hd;have hh:=ad he;clear dk ha gO hb hd he V;rcases lU q with h0 | hp
          · have pu:¬(0:Int)<q:=(by omega);have pw:decide ((0:Int)<q)=false:=bi (by omega);have px:decide (0<q)=false:=bi (by omega);have p4:¬0<q:=(by omega);have j3:Hid (fH fd q=q):=(by show _=_;rw [h0];rfl);clear e7 h0;generalize wo.drewN r=W5 at *;go_upto_region 9 with fail;go_quiet (fail);have M:=(Fr.refl W5).drewN nq;replace I:=M.cell I;replace X:=X.fr M;replace a1:=a1.trans M;replace bk:=ad (bk.out.fr M);replace bv:=ad (bv.out.fr M);replace bx:=ad (bx.out.fr M);have HEq:=ad (cs.out (by rw [HD.out];exact j3.out));clear cs HD;generalize fm:W5.drewN nq=W at *;clear fm;have dk:=fb.out;go_wp2_with (at_builtin;refine aN dO rfl (.tmp 64) (.tmp 67) 310 rfl Tryz.underlying310 W.heap.size rfl Ow.nil _ (o.take (q)) rfl bv.out (by have:=cb.out;simp only [fz];omega) (ag _) ?_);intro v1 J a6;have aj:Fr W J:=a6.below Ow.nil (Fr.refl W) (ag _) (ag _);replace I:=aj.cell I;have cv:((UInt64.ofNat x).toNat:Int)=x:=(by rw [pK];omega);have fn:=ad cv;have cx:=ad (iC (base:=W.heap.size) eJ J #[N k] [k] 1 rfl (by simp [maxLen]) aj.size rfl);have O:Fr J (J.alloc (.cells #[N k] 3)):=(Fr.refl J).alloc _;rw [show(eJ:al Tryz.prog Nat).e=3 from rfl]at cx;clear cv;have a7:=a6.own;obtain⟨y1,n1,z1,rfl⟩:=a7.shape;go_wp2_with (at_builtin;refine aM dO rfl (.tmp 69) (.tmp 78) 310 rfl Tryz.underlying310 W.heap.size rfl (a7.fr O) [⟨⟨UInt64.ofNat x,true,[k]⟩,⟨some ⟨J.heap.size,0,none⟩,1,1⟩⟩] _ _ _ ?hc1 rfl ?hc0 ?hc2 ?hc3 ?_);case hc0=>rw [dp];rfl
            case hc1=>show _=[Value.int .u64 ((UInt64.ofNat x).toNat:Int),_];rw [fn.out];first | done | rfl
            case hc2=>have:=cb.out;simp only [an,fz,bg];omega
            case hc3=>exact aq aj.size O.size
            intro v2 w2 a0;have ba:Fr W w2:=a0.below (a7.fr O) (aj.trans O) (ag _) (aq aj.size O.size);have fr:=ad (b9 cx.out (a7.fr O) a0 (by decide));have bb:=a0.own;obtain⟨y2,n2,z2,rfl⟩:=bb.shape;have kl:=fk.out;have fs:=bx.out.fr ba;go_wp2_with (at_builtin;refine aN dO rfl (.tmp 80) (.tmp 83) 310 rfl Tryz.underlying310 W.heap.size rfl bb _ (o.drop (q)) rfl fs ?hc4 ba.size ?_);case hc4=>have D:=cb.out;have h2:=hh.out;simp only [an,fz,bg];omega
            intro v3 w3 bz;have b0:Fr W w3:=bz.below bb ba (ag _) ba.size;have fv:=ad (b9 fr.out bb bz (by decide));go_wp2_with fail;go_roundw
            case rel => exact ⟨k + 1, o.take q ++ ⟨⟨UInt64.ofNat x, true, [k]⟩, ⟨some ⟨J.heap.size, 0, none⟩, 1, 1⟩⟩ :: o.drop q, by omega, by go_num, by simpa using bz.own.rebase a1.size, by show _ = _; rw [HEq.out]; simp, fun m A => by
              rcases ju.1 A with A | A;· exact (bk.out m (eD A)).fr b0
              · rcases fy.1 A with A | A;· rw [A]; exact fv.out.rebase a1.size
                · exact (bk.out m (kJQb A)).fr b0, a1.trans b0⟩
            case measure=>simp [intOf];omega
          · obtain⟨K,ht⟩:∃ K,q=K+1:=⟨q - 1,by omega⟩;obtain⟨b3,p6,p7,bm,d0,d1⟩:=lB X.see K (by omega);obtain⟨e1,e2⟩:=e7.out K (by omega);have dl:Hid (fH fd q=if fd K then fH fd K else q):=(by show _=_;rw [ht];rfl);have dr:Hid (fd K=decide (x<d.getD ((dU d k).getD K 0) 0)):=(by show _=_;rw [<- gB.out];simp only [g5]);have p8:IntKind.i64.wrap ((q:Int) - 1)=(K:Int):=(by rw [ar _ (by omega)];omega);rw [e1]at d0;generalize d.getD ((dU d k).getD K 0) 0=kq at *;generalize o[K].hd=hq at *;cases bm;have i3:(0:Int)<(q:Int):=(by omega);have p9:decide ((0:Int)<q)=true:=bs (by omega);have qa:decide (0<q)=true:=bs (by omega);have i4:(0:Int)<=(K:Int):=(by omega);have i5:(K:Int)<o.length:=(by omega);have qc:K<q:=(by omega);clear e1 e7 ht;generalize hy:wo.drewN r=W5 at *;have ks:=ad hy;clear hy;by_cases hg:x<kq
            · have f0:(x:Int)<kq:=(by omega);have kx:decide ((x:Int)<kq)=true:=bs f0;have ky:Hid (fH fd o.length=fH fd K):=(by show _=_;rw [HD.out,dl.out,dr.out,bs hg];rfl);clear dl dr cs bv bx fb fk;go_upto_region 9 with fail;go_quiet (fail);go_wp2_with fail;go_roundw;case rel=>exact⟨K,by first | rfl | go_num,by omega,ky,r+nq,by rw [<- ks.out,iu]⟩
              case measure=>simp [intOf];omega
            · have f0:¬(x:Int)<kq:=(by omega);have kx:decide ((x:Int)<kq)=false:=bi f0;have k0:Hid (fH fd q=q):=(by show _=_;rw [dl.out,dr.out,bi hg];rfl);clear dl dr;go_upto_region 9 with fail;go_quiet (fail);have M:=(Fr.refl W5).drewN nq;replace I:=M.cell I;replace X:=X.fr M;replace a1:=a1.trans M;replace bk:=ad (bk.out.fr M);replace bv:=ad (bv.out.fr M);replace bx:=ad (bx.out.fr M);have HEq:=ad (cs.out (by rw [HD.out];exact k0.out));clear cs HD;generalize fm:W5.drewN nq=W at *;clear fm;have dk:=fb.out;go_wp2_with (at_builtin;refine aN dO rfl (.tmp 64) (.tmp 67) 310 rfl Tryz.underlying310 W.heap.size rfl Ow.nil _ (o.take (q)) rfl bv.out (by have:=cb.out;simp only [fz];omega) (ag _) ?_);intro v1 J a6;have aj:Fr W J:=a6.below Ow.nil (Fr.refl W) (ag _) (ag _);replace I:=aj.cell I;have cv:((UInt64.ofNat x).toNat:Int)=x:=(by rw [pK];omega);have fn:=ad cv;have cx:=ad (iC (base:=W.heap.size) eJ J #[N k] [k] 1 rfl (by simp [maxLen]) aj.size rfl);have O:Fr J (J.alloc (.cells #[N k] 3)):=(Fr.refl J).alloc _;rw [show(eJ:al Tryz.prog Nat).e=3 from rfl]at cx;clear cv;have a7:=a6.own;obtain⟨y1,n1,z1,rfl⟩:=a7.shape;go_wp2_with (at_builtin;refine aM dO rfl (.tmp 69) (.tmp 78) 310 rfl Tryz.underlying310 W.heap.size rfl (a7.fr O) [⟨⟨UInt64.ofNat x,true,[k]⟩,⟨some ⟨J.heap.size,0,none⟩,1,1⟩⟩] _ _ _ ?hc1 rfl ?hc0 ?hc2 ?hc3 ?_);case hc0=>rw [dp];rfl
              case hc1=>show _=[Value.int .u64 ((UInt64.ofNat x).toNat:Int),_];rw [fn.out];first | done | rfl
              case hc2=>have:=cb.out;simp only [an,fz,bg];omega
              case hc3=>exact aq aj.size O.size
              intro v2 w2 a0;have ba:Fr W w2:=a0.below (a7.fr O) (aj.trans O) (ag _) (aq aj.size O.size);have fr:=ad (b9 cx.out (a7.fr O) a0 (by decide));have bb:=a0.own;obtain⟨y2,n2,z2,rfl⟩:=bb.shape;have kl:=fk.out;have fs:=bx.out.fr ba;go_wp2_with (at_builtin;refine aN dO rfl (.tmp 80) (.tmp 83) 310 rfl Tryz.underlying310 W.heap.size rfl bb _ (o.drop (q)) rfl fs ?hc4 ba.size ?_);case hc4=>have D:=cb.out;have h2:=hh.out;simp only [an,fz,bg];omega
              intro v3 w3 bz;have b0:Fr W w3:=bz.below bb ba (ag _) ba.size;have fv:=ad (b9 fr.out bb bz (by decide));go_wp2_with fail;go_roundw
              case rel => exact ⟨k + 1, o.take q ++ ⟨⟨UInt64.ofNat x, true, [k]⟩, ⟨some ⟨J.heap.size, 0, none⟩, 1, 1⟩⟩ :: o.drop q, by omega, by go_num, by simpa using bz.own.rebase a1.size, by show _ = _; rw [HEq.out]; simp, fun m A => by
                rcases ju.1 A with A | A;· exact (bk.out m (eD A)).fr b0
                · rcases fy.1 A with A | A;· rw [A]; exact fv.out.rebase a1.size
                  · exact (bk.out m (kJQb A)).fr b0, a1.trans b0⟩
              case measure=>simp [intOf];omega
      · have j1:((x:Int) == 0)=true:=(by simp;omega);have g9:x=0:=(by omega);subst g9;have e6:Hid (dU d (k+1)=dU d k):=(by show _=_;rw [dj.out];rfl);clear dj;go_wp2_with fail;go_roundw;case rel=>exact⟨k+1,o,by omega,by go_num,cl,by rw [e6.out];exact a5.out,dd,hf⟩
        case measure=>simp [intOf];omega
    · obtain rfl:k=d.length:=(by omega);have k1:¬(d.length:Int)<d.length:=(by omega);rw [Cf]at a5 U;have h6:∀ s∈cE d,s<d.length:=fun s h=>sV d s ((o5 _ _ (qr d)).mem_iff.1 h);have f1:=ad h6;clear h6;generalize cE d=us at *;have cm:=qW d us;have h7:=ad (fun h=>xT (df d us) 14 h);have k2:=ad (fun r=>xS (df d us) r);have h8:=ad (qX d us);have ds:=ad cm;clear cm;generalize df d us=R at *;subst cm;generalize wr=wo at *;go_wp2_with fail;go_loopw [11,12] (fun mv F wr=>∃ (i p:Nat),i<=15/\F=N i/\mv=N p/\p<=32768/\Hid (p=2 ^ i)/\wo=wr) (fun _ F _=>15 - (intOf F).toNat);case atStart=>exact⟨0,1,by omega,rfl,rfl,by omega,rfl,by first | rfl | trivial⟩
      case round=>
        obtain⟨i,p,hi,rfl,rfl,hp,HP,rfl⟩:=hrel;by_cases qe:i<15
        · have ql:(i:Int)<15:=(by omega);have hA:Hid (2*p=2 ^ (i+1)):=(by show _=_;rw [HP.out,eA];omega);have k5:2*p<=32768:=(by have D:(2:Nat) ^ (i+1)<=2 ^ 15:=eC (by omega) (by omega);rw [<- hA.out]at D;omega);go_wp2_with fail;go_roundw;case rel=>exact⟨i+1,2*p,by omega,by go_num,by go_num,k5,hA.out,by first | rfl | trivial⟩
          case measure=>simp [intOf];omega
        · obtain rfl:i=15:=(by omega);have k6:p=32768:=HP.out;subst k6;clear HP hp;have qp:¬(32768:Int)<o.length:=(by omega);have qs:o.length<=300:=jv;go_wp2_with fail;go_loopw [13,14] (fun ov F wr=>∃ k:Nat,k<=d.length/\F=N k/\Ow wr wo.heap.size eB ov (List.replicate k (0:UInt8))/\Fr wo wr) (fun _ F _=>d.length - (intOf F).toNat);case atStart=>exact⟨0,ap _,rfl,Ow.nil,Fr.refl _⟩
          case round=>
            obtain⟨k,T,rfl,Y,b4⟩:=hrel;have cz:=hf.trans b4;by_cases dv:k<d.length
            · have d3:(k:Int)<d.length:=(by omega);go_wp2_with (at_builtin;refine aM eB rfl (.tmp 103) (.tmp 104) 29 rfl Tryz.underlying29 wo.heap.size rfl Y [0] _ _ _ rfl rfl rfl (by simp;omega) b4.size ?_);intro v' w4 b5;have k8:Ow w4 wo.heap.size eB v' (List.replicate (k+1) (0:UInt8)):=(by rw [vL];exact b5.own);have k9:Fr wo w4:=b5.below Y b4 (ag _) b4.size;go_wp2_with fail;go_roundw;case rel=>exact⟨k+1,by omega,by go_num,k8,k9⟩
              case measure=>simp [intOf];omega
            · obtain rfl:k=d.length:=(by omega);have d3:¬(d.length:Int)<d.length:=(by omega);have hB:=Y.rebase hf.size;have HO:=ad hB;have c4:=ad (cl.fr b4);have HV:=ad (dd.out.fr b4);clear Y hB cl dd hf b4;generalize wr=J at *;rcases lT o.length 1 with h0 | D | h2;· have d4:us=[]:=ib (by have:=U.out;omega);have lo:o=[]:=ib (by omega);have HR:Hid (RB=List.replicate d.length (0:UInt8)):=(by show _=_;rw [HB.out,<- nO];exact nQ _ _ _ fun s=>by rw [bR.out,d4];rfl);subst lo;clear HB bR;go_wp2_with fail;go_ret2;exact⟨_,rfl,by rw [HR.out];exact HO.out,cz⟩
              · obtain⟨u0,hu⟩:∃ u0,us=[u0]:=vO.1 (by have:=U.out;omega);obtain⟨m0,A⟩:∃ m0,o=[m0]:=vO.1 D;subst A;have d4:=f1.out u0 (by rw [hu];simp);have lr:m0.it.syms=[u0]:=(by have h3:=h8.out 0 (by rw [hu];simp);rw [<- a5.out]at h3;simp only [fL,lw,List.getElem?_cons_zero,iS]at h3;rw [h3];simp [hu]);have HR:Hid (RB=(List.replicate d.length (0:UInt8)).set u0 1):=(by show _=_;rw [HB.out,<- nO];have:=rB d.length (fun _=>0) u0 1;rw [show(1:UInt8)=UInt8.ofNat 1 from rfl,this];exact nQ _ _ _ fun s=>by rw [bR.out,hu];rfl);obtain⟨b,e3,cp,bd,I,c1⟩:=lB c4.out.see 0 (by simp);have f4:=(HV.out m0 (by simp)).see;rw [lr]at f4;obtain⟨b2,lt,lz,bm,d0⟩:=iI f4 0 (by simp);have X:=HO.out;obtain⟨g,oc,c6,f6,l0,l1,l2⟩:=X.atHead (by intro e;rw [List.replicate_eq_nil_iff]at e;omega);rw [lX]at c6;subst c6;obtain⟨e1,e2⟩:=X.cellAt (fun c=>Fk.u8 c) rfl u0 (by simpa using d4);have HS:=ad (X.set (fun c=>Fk.u8 c) rfl u0 (by simpa using d4) 1 (.int .u8 1) rfl);cases bd;simp only [mOQb,cX,Nat.zero_mul,js]at c1 d0;rw [bm]at c1;simp only [bg,fz,js]at *;have i1:(0:Int)<=u0:=(by omega);have i2:(u0:Int)<d.length:=(by omega);clear HB bR X HO c4 HV f4 I;go_wp2_with fail;go_ret2;exact⟨_,rfl,by rw [HR.out];exact HS.out,db cz f6 cz.size⟩
              · have qw:((o.length:Int) == 1)=false:=(by simp;omega);have q0:¬(o.length:Int)<2:=(by omega);have q3:¬o.length=1:=(by omega);have l4:Hid (∀ s,ln s=(bJ ((aJ R 14).take (2*o.length - 2))).count s):=fun s=>(by rw [bR.out,ah (by have:=U.out;omega),ah (by have:=U.out;omega),U.out]);have hC:2*o.length - 2<=(aJ R 14).length:=(by have:=h7.out (by have D:=ds.out;have h2:=U.out;omega);rw [ds.out,<- U.out]at this;exact this);have l5:=ad hC;have hD:Hid (∀ r,∀ x∈aJ R r,x.syms.length<=2 ^ r/\∀ s∈x.syms,s<d.length):=DN R d.length fun x hx=>(by obtain⟨j,hj,rfl⟩:=List.getElem_of_mem hx;have hE:j<us.length:=(by rw [<- ds.out];exact hj);have h3:=h8.out j hE;rw [bo hj]at h3;rw [ez h3];exact⟨by simp,fun s hs=>by rw [lu.1 hs];exact f1.out _ (aH hE)⟩);clear bR hC d3 k1 h7;go_wp2_with fail;go_loopw [15,16] (fun rv F wr=>∃ (r:Nat) (rs:List gp),1<=r/\r<=15/\F=N r/\Ow wr w.heap.size dO rv rs/\Hid (rs.map (·.it)=aJ R (r - 1))/\Hid (iq wr w.heap.size rs)/\Fr J wr) (fun _ F _=>15 - (intOf F).toNat);case atStart=>exact⟨1,o,ag _,by omega,rfl,c4.out,a5.out,HV.out,Fr.refl _⟩
                case round=>
                  obtain⟨r,rs,q4,q5,rfl,c7,ch,d8,V⟩:=hrel;obtain⟨ra,rc,mb⟩:=c7.shape';have q6:rs.length<=600:=(by have D:=fX List.length ch.out;rw [dQ]at D;have h2:=k2.out (r - 1);have h3:=ds.out;have h4:=U.out;omega);subst mb;by_cases q9:r<15
                  · have mc:(r:Int)<15:=(by omega);have hG:=cz.trans V;have hH:Hid (∀ m∈rs,m.it.syms.length<=16384):=fun m A=>(by have D:m.it∈aJ R (r - 1):=(by rw [<- ch.out];exact gt.2 ⟨m,A,rfl⟩);have h2:=(hD.out (r - 1) _ D).1;have rh:(2:Nat) ^ (r - 1)<=16384:=aq (eC (by omega) (show r - 1<=14 by omega)) (by decide);omega);generalize wr=w2 at *;go_wp2_with fail;go_loopw [17,18] (fun pv F wr=>∃ (i:Nat) (Z:List gp),i<=rs.length/\F=N i/\Z.length<=i/\Ow wr w2.heap.size dO pv Z/\Hid (bH (rs.map (·.it))=Z.map (·.it)++bH ((rs.drop i).map (·.it)))/\Hid (iq wr w2.heap.size Z)/\Fr w2 wr) (fun _ F _=>rs.length - (intOf F).toNat);case atStart=>exact⟨0,[],ap _,rfl,by simp,Ow.nil,rfl,ad (fun m h=>by simp at h),Fr.refl _⟩
                    case round=>
                      obtain⟨i,Z,hi,rfl,r0,hP,f7,f9,aa⟩:=hrel;have r2:IntKind.i64.wrap ((i:Int)+1)=((i+1:Nat):Int):=(by rw [ar _ (by omega)];omega);by_cases d9:i+1<rs.length
                      · have mj:((i+1:Nat):Int)<rs.length:=(by omega);obtain⟨b,e3,cp,bd,I,c1⟩:=lB ((c7.fr aa).see) i (by omega);obtain⟨b',r4,r5,bm,d0,d1⟩:=lB ((c7.fr aa).see) (i+1) d9;rw [bd]at bm;cases bm;have bA:=(d8.out _ (aH (show i<rs.length by omega))).fr aa;have hI:=(d8.out _ (aH d9)).fr aa;have r6:=hH.out _ (aH (show i<rs.length by omega));have r7:=hH.out _ (aH d9);have hJ:Hid (bH ((rs.drop i).map (·.it))=⟨rs[i].it.w+rs[i+1].it.w,false,rs[i].it.syms++rs[i+1].it.syms⟩::bH ((rs.drop (i+2)).map (·.it))):=(by show _=_;rw [cM (by omega),cM d9,fL,fL,bH]);generalize rs[i]=x at *;generalize rs[i+1]=y at *;cases bd;have r8:=sH x.it.w y.it.w;have mk:=ad bA.see;have mp:=ad hI.see;have mu:=ad aa.size;clear bA hI;have mx:=hP;have i0:(0:Int)<=i:=(by omega);have i1:(i:Int)<rs.length:=(by omega);have i2:(0:Int)<=((i+1:Nat):Int):=(by omega);have i3:i<rs.length:=(by omega);have i4:(0:Int)<=(i:Int)+1:=(by omega);have i5:(i:Int)+1<rs.length:=(by omega);have m2:Hid (i+2<=rs.length):=(by show _<=_;omega);generalize hK:x.hd=xh at *;generalize hL:y.hd=yh at *;have sc:=ad hK;have sh:=ad hL;clear hK hL;go_wp2_with (at_builtin;refine aN eJ rfl (.tmp 132) (.tmp 137) 57 rfl Tryz.underlying57 wr.heap.size rfl Ow.nil _ x.it.syms rfl mk.out ?hc1 (ag _) ?_);case hc1=>first | omega | (simp;omega)
                        intro s1 w3 a6;have bt:Fr wr w3:=a6.below Ow.nil (Fr.refl wr) (ag _) (ag _);have m3:=bt.cell I;have m4:=bt.cell d0;have m5:=bt.cell d1;have dT:=a6.own;obtain⟨K,n1,z1,rfl⟩:=dT.shape;go_wp2_with (at_builtin;refine aN eJ rfl (.tmp 139) (.tmp 145) 57 rfl Tryz.underlying57 wr.heap.size rfl dT _ y.it.syms rfl (mp.out.fr bt) ?hc2 bt.size ?_);case hc2=>first | omega | (simp;omega)
                        intro s2 w4 a0;have c9:Fr wr w4:=a0.below dT bt (ag _) bt.size;have m6:=c9.cell I;have m9:=c9.cell d0;have ga:=a0.own;obtain⟨q2,z2,rfl⟩:=ga.shape';have ef:=hP.fr c9;have na:=ad (f9.out.fr c9);have gb:=aa.trans c9;clear I c1 d0 d1 m3 m4 m5 a6 a0 dT bt hP mx aa f9;have hM:Ow w4 wr.heap.size eJ (.slice q2 (x.it.syms++y.it.syms).length z2) (x.it.syms++y.it.syms):=(by simpa using ga);have hN:=ad (hM.rebase mu.out);clear ga hM;obtain⟨z,hz⟩:∃ z:gp,z=⟨⟨x.it.w+y.it.w,false,x.it.syms++y.it.syms⟩,⟨q2,(x.it.syms++y.it.syms).length,z2⟩⟩:=⟨_,rfl⟩;have nb:Hid (dO.cells [z]=[.int .u64 ((x.it.w+y.it.w).toNat:Int),.slice q2 (x.it.syms++y.it.syms).length z2]):=(by subst hz;rfl);have hQ:Hid (z.it=⟨x.it.w+y.it.w,false,x.it.syms++y.it.syms⟩):=(by subst hz;rfl);have nc:Hid (Ow w4 w2.heap.size eJ z.hd.v z.it.syms):=(by subst hz;exact hN.out);have nd:Hid (bH (rs.map (·.it))=(Z++[z]).map (·.it)++bH ((rs.drop (i+2)).map (·.it))):=(by show _=_;rw [f7.out,hJ.out,<- hQ.out];simp);have ss:IntKind.i64.wrap ((i:Int)+2)=((i+2:Nat):Int):=(by rw [ar _ (by omega)];omega);clear hz hN hJ f7 hQ;have gc:=fY (x.it.w+y.it.w);have st:=fY x.it.w;have su:=fY y.it.w;generalize (x.it.w+y.it.w).toNat=sv at *;generalize x.it.w.toNat=xw at *;generalize y.it.w.toNat=yw at *;generalize (x.it.syms++y.it.syms).length=nl at *;have ge:Fr w4 (w4.alloc (.cells #[.int .u64 (sv:Int),.slice q2 nl z2] 312)):=(Fr.refl w4).alloc _;have s0:=ge.cell m6;have s3:=ge.cell m9;clear ge;have nn:w2.heap.size<=w4.heap.size:=gb.size;have np:=ad nn;have nw:Z.length+1<=2147483648:=(by omega);have n0:=ad nw;go_upto_region 42 with fail
                        go_region_law (refine oD dO rfl (.tmp 147) (.tmp 162) 310 rfl Tryz.underlying310 w2.heap.size rfl ef [z] _ _ _ (by rw [nb.out]) rfl rfl (by simpa using n0.out) np.out ?_
                                       intro v' w5 b5)
                        all_goals
                          go_wp2_with fail;go_roundw;case rel=>exact⟨i+2,Z++[z],m2.out,by go_num,by simp;omega,b5.own,nd,(na.out.app ef b5).snoc (b9 nc.out ef b5 (by decide)),b5.below ef gb (ag _) gb.size⟩
                          case measure=>simp [intOf];omega
                      · have mj:¬((i+1:Nat):Int)<rs.length:=(by omega);have n4:Hid (Z.map (·.it)=bH (aJ R (r - 1))):=(by show _=_;rw [<- ch.out,f7.out,GT rs i (by omega),dm]);have s4:Z.length<=600:=(by omega);have n5:=c4.out.fr (V.trans aa);have hR:=ad (JQ (.slice la o.length lc) _ o Z wr n5.see hP.see (by omega) (by omega));obtain⟨pa,pc,rfl⟩:=hP.shape';have n6:Hid (bj (o.map (·.it)) (Z.map (·.it))=aJ R r):=(by show _=_;obtain⟨r1,rfl⟩:∃ r1,r=r1+1:=⟨r - 1,by omega⟩;rw [n4.out,a5.out];rfl);rw [n6.out]at hR;have sD:=aa.size;go_wp2_with fail;refine hR.out.mono ?_;rintro e w5 ⟨nv,rfl,ns,oa,ob,od,gs⟩;have oe:=hG.trans aa;go_wp2_with fail;go_roundw
                        case rel => exact ⟨r + 1, ns, by omega, by omega, by go_num, oa.rebase oe.size, ob, fun m A => by
                          rcases od m A with h | h;· exact (HV.out m h).fr ((V.trans aa).trans gs)
                          · exact ((f9.out m h).fr gs).rebase hG.size, (V.trans aa).trans gs⟩
                        case measure=>simp [intOf];omega
                  · obtain rfl:r=15:=(by omega);have mc:¬(15:Int)<15:=(by omega);have hT:=cz.trans V;have er:=ad (HO.out.fr V);have hU:(rs.map (·.it)).length=rs.length:=(by simp);have hV:(aJ R 14).length=rs.length:=(by rw [<- hU,ch.out]);have sN:2*o.length - 2<=rs.length:=(by rw [<- hV];exact l5.out);generalize wr=w3 at *;obtain⟨g,oc,c6,f6,l0,l1,l2⟩:=er.out.atHead (by intro e;rw [List.replicate_eq_nil_iff]at e;have D:=U.out;have h2:=f1.out (us[0]'(by omega)) (aH _);omega);rw [lX]at c6;subst c6;have gv:=er.out;rw [<- nO]at gv
                    have ok:Hid (∀ W,ak (fun k=>k=g) w3 W->af W dO (.slice ra rs.length rc) rs):=fun W L=>
                      (c7.chg L fun k T e => by
                        rw [e] at T
                        rcases iB c7 er.out (by decide) with D | D
                        · rw [D] at T; cases T
                        · exact D T).see
                    have ol:Hid (∀ W,ak (fun k=>k=g) w3 W->∀ m∈rs,af W eJ m.hd.v m.it.syms):=fun W L m A=>
                      ((d8.out m A).chg L fun k T e => by
                        rw [e] at T
                        rcases iB (d8.out m A) er.out (by decide) with D | D
                        · rw [D] at T; cases T
                        · exact D T).see
                    have sP:IntKind.i64.wrap (2*(o.length:Int))=((2*o.length:Nat):Int):=(by rw [ar _ (by omega)];omega);have sR:IntKind.i64.wrap (((2*o.length:Nat):Int) - 2)=((2*o.length - 2:Nat):Int):=(by rw [ar _ (by omega)];omega);clear hU hV HO c4 HV a5;generalize 2*o.length - 2=t0 at *;generalize 2*o.length=t1 at *;go_wp2_with fail;go_loopw [20] (fun F wr=>∃ (i:Nat) (cF:Nat->Nat),i<=t0/\F=N i/\Ow wr w.heap.size eB (.slice (some ⟨g,0,none⟩) d.length oc) (ei d.length cF)/\Hid (∀ s,cF s=(bJ ((rs.map (·.it)).take i)).count s)/\ak (fun k=>k=g) w3 wr) (fun F _=>t0 - (intOf F).toNat);case atStart=>exact⟨0,fun _=>0,ap _,rfl,gv,fun s=>by simp [bJ],ak.refl _ _⟩
                    case round=>
                      clear gv;obtain⟨i,cF,hi,rfl,Y,HF,L⟩:=hrel;have sW:IntKind.i64.wrap ((i:Int)+1)=((i+1:Nat):Int):=(by rw [ar _ (by omega)];omega);by_cases ta:i<t0
                      · have om:(i:Int)<(t0:Int):=(by omega);have g0:i<rs.length:=(by omega);have tb:(i:Int)<rs.length:=(by omega);have i0:(0:Int)<=(i:Int):=(by omega);have hW:Hid (∀ s,(bJ ((rs.map (·.it)).take (i+1))).count s=(bJ ((rs.map (·.it)).take i)).count s+(rs[i].it.syms).count s):=fun s=>(by rw [cL (by simpa using g0),sX,ow];simp [bJ]);have hX:=ad (aH g0);have oo:=ad (fun W L=>lB (ok.out W L) i g0);have or:rs[i].it.syms.length<=16384/\∀ s∈rs[i].it.syms,s<d.length:=(by have D:rs[i].it∈aJ R 14:=(by have:=ch.out;rw [<- this];exact gt.2 ⟨_,hX.out,rfl⟩);exact hD.out 14 _ D);obtain⟨tc,gc⟩:=or;have o1:=ad gc;clear gc;generalize rs[i]=x at *;generalize hY:x.it.syms=Q at *;have o2:=ad hY;clear hY;generalize wr=wq at *;go_wp2_with fail;go_loopw [21] (fun kv wr=>∃ (k:Nat) (G:Nat->Nat),k<=Q.length/\kv=N k/\Ow wr w.heap.size eB (.slice (some ⟨g,0,none⟩) d.length oc) (ei d.length G)/\Hid (∀ s,G s=cF s+(Q.take k).count s)/\ak (fun k=>k=g) w3 wr) (fun kv _=>Q.length - (intOf kv).toNat);case atStart=>exact⟨0,cF,ap _,rfl,Y,fun s=>by simp,L⟩
                        case round=>
                          clear Y L;obtain⟨k,G,T,rfl,Y,HG,L⟩:=hrel;obtain⟨b,e3,cp,bd,I,c1⟩:=oo.out wr L;cases bd;have bA:=ol.out wr L x hX.out;rw [o2.out]at bA;obtain⟨xa,xc,hZ,_⟩:=bA.shape;rw [hZ]at c1 bA;have tm:IntKind.i64.wrap ((k:Int)+1)=((k+1:Nat):Int):=(by rw [ar _ (by omega)];omega);clear hZ;by_cases dv:k<Q.length
                          · have d3:(k:Int)<Q.length:=(by omega);have j0:(0:Int)<=(k:Int):=(by omega);obtain⟨b2,lt,lz,bm,d0⟩:=iI bA k dv;cases bm;have g2:=o1.out _ (aH dv);have ia:Hid (∀ s,(Q.take (k+1)).count s=(Q.take k).count s+if Q[k]=s then 1 else 0):=fun s=>(by rw [cL dv,ow,List.count_singleton];simp);generalize Q[k]=e at *;have ev:=nP d.length G;obtain⟨d1,d2⟩:=Y.cellAt (fun c=>Fk.u8 c) rfl e (by rw [ev];exact g2);have ih:(ei d.length G)[e]'(by rw [ev];exact g2)=UInt8.ofNat (G e):=(by simp [ei]);rw [ih]at d1;replace d1:wr.cell? ⟨g,e,none⟩=some (.int .u8 ((UInt8.ofNat (G e)).toNat:Int)):=d1;have ty:=wF (G e);have ij:=ad (Y.set (fun c=>Fk.u8 c) rfl e (by rw [ev];exact g2) (UInt8.ofNat (G e+1)) (.int .u8 ((UInt8.ofNat (G e+1)).toNat:Int)) rfl);rw [rB]at ij;have o3:Hid (∀ s,(if s=e then G e+1 else G s)=cF s+(Q.take (k+1)).count s):=fun s=>by
                              rw [ia.out s];by_cases h:s=e;· subst h;rw [ai rfl,ai rfl,HG.out s];omega
                              · rw [ah h,ah (eT h),HG.out s];omega
                            have t2:=kH (UInt8.ofNat (G e));clear HG ia ih ev;have i4:(0:Int)<=e:=(by omega);have i5:(e:Int)<d.length:=(by omega);generalize (UInt8.ofNat (G e)).toNat=t3 at *;generalize (UInt8.ofNat (G e+1)).toNat=t4 at *;go_wp2_with fail;go_roundw;case rel=>exact⟨k+1,(fun s=>if s=e then G e+1 else G s),by omega,by go_num,ij.out,o3.out,L.trans (aw wr _ _) (fun _ _ h=>h)⟩
                            case measure=>simp [intOf];omega
                          · obtain rfl:k=Q.length:=(by omega);have d3:¬(Q.length:Int)<Q.length:=(by omega);have o7:Hid (∀ s,G s=(bJ ((rs.map (·.it)).take (i+1))).count s):=fun s=>(by rw [HG.out s,hW.out s,HF.out s,cu]);clear HG hW HF;go_wp2_with fail;go_roundw;case rel=>exact⟨i+1,G,by omega,by go_num,Y,o7,L⟩
                            case measure=>simp [intOf];omega
                      · obtain rfl:i=t0:=(by omega);have om:¬(i:Int)<(i:Int):=(by omega);have HE:Hid (RB=ei d.length cF):=(by show _=_;rw [HB.out];exact nQ _ _ _ fun s=>by rw [HF.out s,l4.out s,ch.out]);clear HF;go_wp2_with fail;go_ret2;exact⟨_,rfl,by rw [HE.out];exact Y,ak.below hT L hT.size (fun j hj=>by rw [hj];exact f6)⟩
end Go.Proofs.YtdamnfpigajmoaaGreatDoor
