/- Parts of the proof of ArchPacks: G3. -/
import Derived.Test.YtdamnfpigajmoaaGreatDoorM13
import Derived.Test.YtdamnfpigajmoaaGreatDoorM11
import Derived.Test.YtdamnfpigajmoaaGreatDoorM04
import Derived.Laws.Tables
set_option linter.unusedVariables false
set_option linter.unusedSectionVars false
set_option linter.unusedSimpArgs false
set_option maxHeartbeats 8000000
set_option maxRecDepth 100000
namespace Go.Fk
abbrev dmQb:=@List.append_nil
abbrev gG:=@Go.wpList_store_row
abbrev iQ:=@Go.wpList_load_row
abbrev gZ:=@Nat.le_of_eq
abbrev kjQb:=@List.all_toArray
abbrev ozQb:=@Array.getElem?_eq_none
abbrev sgQb:=@Array.getElem?_setIfInBounds_ne
abbrev kGQb:=@Go.setRow_heap
abbrev rZQb:=@List.all_eq_true
abbrev rU:=@Go.results_cell_row
end Go.Fk
namespace Go.Proofs.YtdamnfpigajmoaaGreatDoor
open Go.RowKit Go.Fk
def dn(c:Nat):Array Value:=((List.range 256).map fun i=>B8 (aO c i)).toArray
theorem fP(w:World)(g:Nat)(d:Array Value):ak (fun k=>k=g) w (w.setRow g d):=
 ⟨rfl,rfl,rfl,by simp [World.setRow],fun k _ e=>setRow_other w g k d e⟩
theorem Jr (c : Nat) (L : c < 256) (w : World) :
    Calls Tryz.prog 230 #[B8 c] w fun e w'=>e=.returned (.agg (dn c))/\Fr w w':=by
  have aj:∃ h:Array Value,Tryz.zeroCells308=h/\h.size=256/\h[0]? = some (B8 (aO c 0)):=⟨_,rfl,by kernel_rfl,by rw [yD];kernel_rfl⟩;obtain⟨d,av,T,U⟩:=aj;go_enter Tryz.func230, Tryz.ntmps230;go_wp2_with fail;have V:(((w.alloc (.cells d 308)).alloc (.cells d 308)).heap[w.heap.size]?)=some (.cells d 308 (0,0)):=(by rw [gz _ _ _ (by simp),au _ _ _ rfl]);have X:(((w.alloc (.cells d 308)).alloc (.cells d 308)).heap[w.heap.size+1]?)=some (.cells d 308 (0,0)):=au _ _ _ (by simp);have Y:Fr w ((w.alloc (.cells d 308)).alloc (.cells d 308)):=((Fr.refl w).alloc _).alloc _;generalize (w.alloc (.cells d 308)).alloc (.cells d 308)=w0 at *;generalize z:w.heap.size=g at *;clear av;go_loopw [4] (fun M wr=>∃ (i:Nat) (h:Array Value),1<=i/\i<=256/\M=N i/\wr.heap[g]? = some (.cells d 308 (0,0))/\wr.heap[g+1]? = some (.cells h 308 (0,0))/\h.size=256/\Hid (∀ j,j<i->h[j]? = some (B8 (aO c j)))/\Below g w wr) (fun M _=>256 - (intOf M).toNat)
  case atStart => exact ⟨1, d, ag _, by omega, rfl, V, X, T, by intro j q; obtain rfl : j = 0 := by omega
                                                                exact U, by rw [← z]; exact Y⟩
  case round=>
    clear V X Y U;obtain⟨i,h,bb,bc,rfl,D,m,y,F,o⟩:=hrel;by_cases G:i<256
    · have bd:(i:Int)<256:=(by omega);have e1:wr.cell? ⟨g+1,i / 2,none⟩=some (B8 (aO c (i / 2))):=(by rw [aL m];exact F.out _ (by omega));have e2:wr.frozen? ⟨g+1,i,none⟩=false:=az m i;have Z:∃ u,wr.cell? ⟨g+1,i,none⟩=some u:=(by rw [aL m];exact⟨h[i]'(by omega),by simp [G,y]⟩);obtain⟨u0,Z⟩:=Z;have hm:=n9 c (i / 2) L;have I:=ad (Fs c i L G);have i3:(i:Int) / 2<256:=(by omega);have i4:(0:Int)<=(i:Int) / 2:=(by omega);have i5:((i:Int) / 2).toNat=i / 2:=(by omega);have i6:(0:Int)<=i:=(by omega);have HT:=ad (sJ (aO c (i / 2)) hm);have a1:=o8 _ hm;go_wp2_with fail;refine(HT.out _).mono ?_;rintro e w1 ⟨rfl,rfl⟩;generalize dE (aO c (i / 2))=t at *;by_cases J:i % 2=1
      · have o1:(i:Int) % 2=1:=(by omega);have hx:=mT t c a1 L;have O:Hid (aO c i=t ^^^ c):=(by show _=_;rw [I.out,ai J]);clear I J;go_wp2_with fail;go_roundw
        case rel=>
          refine⟨i+1,(h.setIfInBounds i (B8 t)).setIfInBounds i (B8 (t ^^^ c)),by omega,by omega,by go_num,?_,?_,by simp [y],?_,?_⟩;· rw [md _ _ _ _ (by simp),md _ _ _ _ (by simp)];exact D
          · exact aB (aB m i _) i _
          · intro j q;by_cases e:j=i;· subst e;rw [O.out];simp [y,G]
            · rw [sgQb (eT e),sgQb (eT e)];exact F.out j (by omega)
          · have K:=aq (gZ z.symm) (Below.size o);exact db (db o (Nat.le_succ g) K) (Nat.le_succ g) (by simpa [World.setCell] using K)
        case measure=>simp [intOf];omega
      · have o1:(i:Int) % 2=0:=(by omega);have O:Hid (aO c i=t):=(by show _=_;rw [I.out,ah J,pL]);clear I J;go_wp2_with fail;go_roundw
        case rel=>
          refine⟨i+1,h.setIfInBounds i (B8 t),by omega,by omega,by go_num,?_,?_,by simp [y],?_,?_⟩;· rw [md _ _ _ _ (by simp)];exact D
          · exact aB m i _
          · intro j q;by_cases e:j=i;· subst e;rw [O.out];simp [y,G]
            · rw [sgQb (eT e)];exact F.out j (by omega)
          · have K:=aq (gZ z.symm) (Below.size o);exact db o (Nat.le_succ g) K
        case measure=>simp [intOf];omega
    · obtain rfl:i=256:=(by omega);have a3:h=dn c:=by
        apply Array.ext_getElem?;intro j;by_cases q:j<256;· rw [F.out j q];unfold dn;simp [q]
        · rw [ozQb (by omega),ozQb (by unfold dn;simp;omega)]
      subst a3;have a4:(dn c).all (·.oneCell')=true:=(by unfold dn;rw [kjQb,rZQb];intro u hu;obtain⟨_,_,rfl⟩:=gt.1 hu;rfl);have a6:(Tryz.prog.info? 308).map (·.size)=some 256:=(by kernel_rfl);have ab:(dn c).size=256:=(by simp [dn]);have Q:(Tryz.prog.info? 308).map (·.size)=some (dn c).size:=(by rw [ab];exact a6);have R:=ad o;clear o;go_wp2_with (first | (refine iQ rfl 308 (.tmp 3) rfl (g+1) rfl 308 (dn c) (0,0) _ m Tryz.underlying308 rfl Q ?_) | (refine gG rfl 308 (.tmp 2) (.tmp 25) rfl g (dn c) rfl rfl 308 d D Q (by rw [ab,T]) a4 ?_));exact b6Qb (v := .agg (dn c)) (rU Tryz.results230 _ _ g 308 (dn c) (0, 0) _ rfl (kGQb _ g d (dn c) _ _ D) Tryz.underlying308 rfl Q) rfl ⟨rfl, by
        have h9 := fP wr g (dn c);rw [← z] at R h9 ⊢
        exact ak.below R.out h9 (Below.size R.out) (fun k hk => gZ hk.symm)⟩
theorem DQ(c j:Nat)(h:j<256):(dn c)[j]? = some (B8 (aO c j)):=by unfold dn;simp [h]
theorem L6(M O:Value)(h b:List UInt8)(c:Nat)(Q:c<256)(w:World)(T:af w eB M h)(U:af w eB O b)(F:h.length=b.length)(hn:h.length<=1000000) :
  Calls Tryz.prog 171 #[M,B8 c,O] w fun e w'=>∃ v,e=.returned (.tuple #[v,.int .i64 0])/\Ow w' w.heap.size eB v (iO h c b)/\Fr w w':=by
 obtain⟨aa,ca,ba,_⟩:=T.shape;obtain⟨ab,cb,bb,_⟩:=U.shape;have V:=ad (Jr c Q);have X:=Ja h b c F;have bc:=ad (AG h b c);generalize hR:iO h c b=R at *;have HL:=ad X;clear hR X;subst ba bb;rw [<- F];have bk:=mw eB rfl rfl 29 Tryz.underlying29 .i64 .i64 b.length (by omega);go_enter Tryz.func171, Tryz.ntmps171;go_upto_region 3 with fail;go_wp2_with fail;refine(V.out _).mono ?_;rintro e d ⟨rfl,G⟩;have Y:(dn c).size=256:=by simp [dn]
 have bm:(dn c).all (·.oneCell')=true:=by unfold dn;rw [kjQb,rZQb];intro u hu;obtain⟨_,_,rfl⟩:=gt.1 hu;rfl
 have bt:(Tryz.prog.info? 308).map (·.size)=some (dn c).size:=by rw [Y];kernel_rfl
 have I:(d.alloc (.cells Tryz.zeroCells308 308)).heap[d.heap.size]? = some (.cells Tryz.zeroCells308 308 (0,0)):=au _ _ _ rfl;have Z:(Tryz.zeroCells308).size=(dn c).size:=by rw [Y];kernel_rfl
 have J:=kGQb _ d.heap.size Tryz.zeroCells308 (dn c) _ _ I
 have K:Fr w ((d.alloc (.cells Tryz.zeroCells308 308)).setRow d.heap.size (dn c)):=
  ak.below (G.alloc _) (fP _ _ _) (by simp;have:=G.size;omega) (fun k hk=>by rw [hk];exact G.size)
 have ac:=my (base:=((d.alloc (.cells Tryz.zeroCells308 308)).setRow d.heap.size (dn c)).heap.size) eB rfl rfl b.length (by omega) ((d.alloc (.cells Tryz.zeroCells308 308)).setRow d.heap.size (dn c)) (ag _);generalize aj:(d.alloc (.cells Tryz.zeroCells308 308)).setRow d.heap.size (dn c)=o at *;have bv:d.heap.size<o.heap.size:=(aR.1 J).1;go_wp2_with (refine gG rfl 308 (.tmp 8) (.tmp 18) rfl d.heap.size (dn c) rfl rfl 308 Tryz.zeroCells308 I bt Z bm ?_;rw [aj]);have av:(o.alloc (.cells (madeCells #[eB.z] b.length) eB.e)).heap[d.heap.size]? = some (.cells (dn c) 308 (0,0)):=by rw [gz _ _ _ bv];exact J
 have a0:=K.size;have a1:Fr w (o.alloc (.cells (madeCells #[eB.z] b.length) eB.e)):=K.alloc _;generalize o.alloc (.cells (madeCells #[eB.z] b.length) eB.e)=w3 at *;generalize hg:o.heap.size=g at *;generalize d.heap.size=r at *;clear J K aj bk I V Z;go_loopw [24] (fun L wr=>∃ i:Nat,i<=b.length/\L=N i/\Ow wr g eB (.slice (some ⟨g,0,none⟩) b.length b.length) (R.take i++List.replicate (b.length - i) 0)/\wr.heap[r]? = some (.cells (dn c) 308 (0,0))/\Fr w wr) (fun L _=>b.length - (intOf L).toNat);case atStart=>exact⟨0,ap _,rfl,ac,av,a1⟩
 case round=>
  clear ac av a1;obtain⟨i,hi,rfl,D,a2,q⟩:=hrel;have a3:R.length=b.length:=(by have:=HL.out;omega);by_cases z:i<b.length
  · obtain⟨b1,o1,c1,a4,e1⟩:=(T.fr q).cell1 (fun c=>Fk.u8 c) rfl i (by omega);obtain⟨b2,o2,c2,bz,e2⟩:=(U.fr q).cell1 (fun c=>Fk.u8 c) rfl i z;have HX:=ad (bc.out i (by omega) z (by omega));generalize h[i]'(by omega)=x at *;generalize b[i]=y at *;rw [F]at a4;cases a4;cases bz;have e3:wr.cell? ⟨r,y.toNat,none⟩=some (B8 (aO c y.toNat)):=(by rw [aL a2];exact DQ c _ y.toNat_lt);have cs:=y.toNat_lt;have a5:=n9 c y.toNat Q;have hx:=mT x.toNat (aO c y.toNat) x.toNat_lt a5;have b3:x.toNat ^^^ aO c y.toNat<2 ^ 8:=iw x.toNat_lt a5;generalize aO c y.toNat=m at *;have a6:=rq R (0:UInt8) b.length i a3 hi;obtain⟨k0,k1⟩:=D.cellAt Fk.u8 rfl i (by rw [a6];exact z);have a7:=D.set Fk.u8 rfl i (by rw [a6];exact z) (UInt8.ofNat (x.toNat ^^^ m)) (B8 (x.toNat ^^^ m)) (mB _ b3).symm;rw [rp R 0 b.length i a3 z _ HX.out]at a7;have cy:(i:Int)<b.length:=(by omega);have cz:(0:Int)<=i:=(by omega);have c0:(y.toNat:Int)<256:=(by omega);have c3:(0:Int)<=y.toNat:=(by omega);go_wp2_with fail;go_roundw;case rel=>exact⟨i+1,by omega,by go_num,a7,by rw [md _ _ _ _ (by simp;omega)];exact a2,db q a0 (Below.size q)⟩
    case measure=>simp [intOf];omega
  · obtain rfl:i=b.length:=(by omega);have c4:¬((b.length:Int)<b.length):=(by omega);rw [e8,List.replicate_zero,dmQb,eo (by omega)]at D;go_wp2_with fail;exact b6Qb (v:=.tuple #[.slice (some ⟨g,0,none⟩) b.length b.length,.int .i64 0]) (by simp [results,Tryz.results171,go_sem, *]) rfl ⟨_,rfl,D.rebase a0,q⟩
end Go.Proofs.YtdamnfpigajmoaaGreatDoor
