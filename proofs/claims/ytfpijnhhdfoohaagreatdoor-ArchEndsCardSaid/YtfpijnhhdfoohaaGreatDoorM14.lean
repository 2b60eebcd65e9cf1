/- Parts of the proof of ArchEnds: G3. -/
import Derived.Test.YtfpijnhhdfoohaaGreatDoorM08
import Derived.Test.YtfpijnhhdfoohaaGreatDoorM00
import Derived.Test.YtfpijnhhdfoohaaGreatDoorM09
import Derived.Laws.Tables
set_option linter.unusedVariables false
set_option linter.unusedSectionVars false
set_option linter.unusedSimpArgs false
set_option maxHeartbeats 8000000
set_option maxRecDepth 100000
namespace Go.Fk
abbrev bS:=@Go.wpList_store_row
abbrev dPQb:=@List.all_toArray
abbrev cPQb:=@Go.setRow_heap
abbrev fOQb:=@Nat.le_of_eq
abbrev guQc:=@Nat.sub_self
abbrev kD:=@Go.wpList_load_row
abbrev ogQb:=@List.all_eq_true
abbrev vJQb:=@Array.getElem?_setIfInBounds_ne
abbrev tCQb:=@Array.getElem?_eq_none
abbrev rr:=@Go.results_cell_row
abbrev vz:=@List.replicate_zero
end Go.Fk
namespace Go.Proofs.YtfpijnhhdfoohaaGreatDoor
open Go.RowKit Go.Fk
def bV(c:Nat):Array Value:=((List.range 256).map fun i=>B8 (aJ c i)).toArray
theorem bC(w:World)(g:Nat)(d:Array Value):ah (fun k=>k=g) w (w.setRow g d):=
 ⟨rfl,rfl,rfl,by simp [World.setRow],fun k _ e=>setRow_other w g k d e⟩
theorem E5 (c : Nat) (L : c < 256) (w : World) :
    Calls Tryz.prog 194 #[B8 c] w fun e w'=>e=.returned (.agg (bV c))/\Fr w w':=by
  have ap:∃ h:Array Value,Tryz.zeroCells304=h/\h.size=256/\h[0]?=some (B8 (aJ c 0)):=⟨_,rfl,by kernel_rfl,by rw [BW];kernel_rfl⟩;obtain⟨d,av,U,V⟩:=ap;go_enter Tryz.func194, Tryz.ntmps194;go_wp2_with fail;have X:(((w.alloc (.cells d 304)).alloc (.cells d 304)).heap[w.heap.size]?)=some (.cells d 304 (0,0)):=(by rw [ig _ _ _ (by simp),a9 _ _ _ rfl]);have Y:(((w.alloc (.cells d 304)).alloc (.cells d 304)).heap[w.heap.size+1]?)=some (.cells d 304 (0,0)):=a9 _ _ _ (by simp);have Z:Fr w ((w.alloc (.cells d 304)).alloc (.cells d 304)):=((Fr.refl w).alloc _).alloc _;generalize (w.alloc (.cells d 304)).alloc (.cells d 304)=w0 at *;generalize B:w.heap.size=g at *;clear av;go_loopw [4] (fun M wr=>∃ (i:Nat) (h:Array Value),1<=i/\i<=256/\M=N i/\wr.heap[g]?=some (.cells d 304 (0,0))/\wr.heap[g+1]?=some (.cells h 304 (0,0))/\h.size=256/\Hid (∀ j,j<i->h[j]?=some (B8 (aJ c j)))/\Below g w wr) (fun M _=>256 - (intOf M).toNat)
  case atStart => exact ⟨1, d, am _, by omega, rfl, X, Y, U, by intro j q; obtain rfl : j = 0 := by omega
                                                                exact V, by rw [← B]; exact Z⟩
  case round=>
    clear X Y Z V;obtain⟨i,h,ba,bb,rfl,D,m,z,F,o⟩:=hrel;by_cases G:i<256
    · have bc:(i:Int)<256:=(by omega);have e1:wr.cell? ⟨g+1,i / 2,none⟩=some (B8 (aJ c (i / 2))):=(by rw [aA m];exact F.out _ (by omega));have e2:wr.frozen? ⟨g+1,i,none⟩=false:=al m i;have e3:∃ u,wr.cell? ⟨g+1,i,none⟩=some u:=(by rw [aA m];exact⟨h[i]'(by omega),by simp [G,z]⟩);obtain⟨u0,e3⟩:=e3;have hm:=mT c (i / 2) L;have I:=ad (Lx c i L G);have i3:(i:Int) / 2<256:=(by omega);have i4:(0:Int)<=(i:Int) / 2:=(by omega);have i5:((i:Int) / 2).toNat=i / 2:=(by omega);have i6:(0:Int)<=i:=(by omega);have HT:=ad (vX (aJ c (i / 2)) hm);have a1:=pd _ hm;go_wp2_with fail;refine(HT.out _).mono ?_;rintro e w1 ⟨rfl,rfl⟩;generalize ew (aJ c (i / 2))=t at *;by_cases J:i % 2=1
      · have o1:(i:Int) % 2=1:=(by omega);have hx:=tF t c a1 L;have O:Hid (aJ c i=t ^^^ c):=(by show _=_;rw [I.out,ag J]);clear I J;go_wp2_with fail;go_roundw
        case rel=>
          refine⟨i+1,(h.setIfInBounds i (B8 t)).setIfInBounds i (B8 (t ^^^ c)),by omega,by omega,by go_num,?_,?_,by simp [z],?_,?_⟩;· rw [nw _ _ _ _ (by simp),nw _ _ _ _ (by simp)];exact D
          · exact a8 (a8 m i _) i _
          · intro j q;by_cases e:j=i;· subst e;rw [O.out];simp [z,G]
            · rw [vJQb (fy e),vJQb (fy e)];exact F.out j (by omega)
          · have K:=az (fOQb B.symm) (Below.size o);exact ex (ex o (Nat.le_succ g) K) (Nat.le_succ g) (by simpa [World.setCell] using K)
        case measure=>simp [intOf];omega
      · have o1:(i:Int) % 2=0:=(by omega);have O:Hid (aJ c i=t):=(by show _=_;rw [I.out,ae J,th]);clear I J;go_wp2_with fail;go_roundw
        case rel=>
          refine⟨i+1,h.setIfInBounds i (B8 t),by omega,by omega,by go_num,?_,?_,by simp [z],?_,?_⟩;· rw [nw _ _ _ _ (by simp)];exact D
          · exact a8 m i _
          · intro j q;by_cases e:j=i;· subst e;rw [O.out];simp [z,G]
            · rw [vJQb (fy e)];exact F.out j (by omega)
          · have K:=az (fOQb B.symm) (Below.size o);exact ex o (Nat.le_succ g) K
        case measure=>simp [intOf];omega
    · obtain rfl:i=256:=(by omega);have a3:h=bV c:=by
        apply Array.ext_getElem?;intro j;by_cases q:j<256;· rw [F.out j q];unfold bV;simp [q]
        · rw [tCQb (by omega),tCQb (by unfold bV;simp;omega)]
      subst a3;have a4:(bV c).all (·.oneCell')=true:=(by unfold bV;rw [dPQb,ogQb];intro u hu;obtain⟨_,_,rfl⟩:=g6.1 hu;rfl);have a6:(Tryz.prog.info? 304).map (·.size)=some 256:=(by kernel_rfl);have ac:(bV c).size=256:=(by simp [bV]);have Q:(Tryz.prog.info? 304).map (·.size)=some (bV c).size:=(by rw [ac];exact a6);have R:=ad o;clear o;go_wp2_with (first | (refine kD rfl 304 (.tmp 3) rfl (g+1) rfl 304 (bV c) (0,0) _ m Tryz.underlying304 rfl Q ?_) | (refine bS rfl 304 (.tmp 2) (.tmp 25) rfl g (bV c) rfl rfl 304 d D Q (by rw [ac,U]) a4 ?_));exact aL (v := .agg (bV c)) (rr Tryz.results194 _ _ g 304 (bV c) (0, 0) _ rfl (cPQb _ g d (bV c) _ _ D) Tryz.underlying304 rfl Q) rfl ⟨rfl, by
        have h9 := bC wr g (bV c);rw [← B] at R h9 ⊢
        exact ah.below R.out h9 (Below.size R.out) (fun k hk => fOQb hk.symm)⟩
theorem Bc(c j:Nat)(h:j<256):(bV c)[j]?=some (B8 (aJ c j)):=by unfold bV;simp [h]
theorem Fa(L M:Value)(h b:List UInt8)(c:Nat)(O:c<256)(w:World)(Q:ai w eB L h)(U:ai w eB M b)(D:h.length=b.length)(hn:h.length<=1000000) :
  Calls Tryz.prog 162 #[L,B8 c,M] w fun e V=>∃ v,e=.returned (.tuple #[v,.int .i64 0])/\Ow V w.heap.size eB v (gQ h c b)/\Fr w V:=by
 obtain⟨aa,ca,a7,_⟩:=Q.shape;obtain⟨ab,cb,aC,_⟩:=U.shape;have X:=ad (E5 c O);have Y:=QE h b c D;have ba:=ad (QG h b c);generalize hR:gQ h c b=R at *;have HL:=ad Y;clear hR Y;subst a7 aC;rw [<- D];have bd:=oE eB rfl rfl 22 Tryz.underlying22 .i64 .i64 b.length (by omega);go_enter Tryz.func162, Tryz.ntmps162;go_upto_region 3 with fail;go_wp2_with fail;refine(X.out _).mono ?_;rintro e d ⟨rfl,F⟩;have Z:(bV c).size=256:=by simp [bV]
 have bf:(bV c).all (·.oneCell')=true:=by unfold bV;rw [dPQb,ogQb];intro u hu;obtain⟨_,_,rfl⟩:=g6.1 hu;rfl
 have bl:(Tryz.prog.info? 304).map (·.size)=some (bV c).size:=by rw [Z];kernel_rfl
 have G:(d.alloc (.cells Tryz.zeroCells304 304)).heap[d.heap.size]?=some (.cells Tryz.zeroCells304 304 (0,0)):=a9 _ _ _ rfl;have ac:(Tryz.zeroCells304).size=(bV c).size:=by rw [Z];kernel_rfl
 have I:=cPQb _ d.heap.size Tryz.zeroCells304 (bV c) _ _ G
 have J:Fr w ((d.alloc (.cells Tryz.zeroCells304 304)).setRow d.heap.size (bV c)):=
  ah.below (F.alloc _) (bC _ _ _) (by simp;have:=F.size;omega) (fun k hk=>by rw [hk];exact F.size)
 have aj:=pL (base:=((d.alloc (.cells Tryz.zeroCells304 304)).setRow d.heap.size (bV c)).heap.size) eB rfl rfl b.length (by omega) ((d.alloc (.cells Tryz.zeroCells304 304)).setRow d.heap.size (bV c)) (am _);generalize ak:(d.alloc (.cells Tryz.zeroCells304 304)).setRow d.heap.size (bV c)=o at *;have bs:d.heap.size<o.heap.size:=(aM.1 I).1;go_wp2_with (refine bS rfl 304 (.tmp 8) (.tmp 18) rfl d.heap.size (bV c) rfl rfl 304 Tryz.zeroCells304 G bl ac bf ?_;rw [ak]);have ap:(o.alloc (.cells (madeCells #[eB.z] b.length) eB.e)).heap[d.heap.size]?=some (.cells (bV c) 304 (0,0)):=by rw [ig _ _ _ bs];exact I
 have av:=J.size;have a0:Fr w (o.alloc (.cells (madeCells #[eB.z] b.length) eB.e)):=J.alloc _;generalize o.alloc (.cells (madeCells #[eB.z] b.length) eB.e)=w3 at *;generalize hg:o.heap.size=g at *;generalize d.heap.size=r at *;clear I J ak bd G X ac;go_loopw [24] (fun K wr=>∃ i:Nat,i<=b.length/\K=N i/\Ow wr g eB (.slice (some ⟨g,0,none⟩) b.length b.length) (R.take i++List.replicate (b.length - i) 0)/\wr.heap[r]?=some (.cells (bV c) 304 (0,0))/\Fr w wr) (fun K _=>b.length - (intOf K).toNat);case atStart=>exact⟨0,an _,rfl,aj,ap,a0⟩
 case round=>
  clear aj ap a0;obtain⟨i,hi,rfl,B,a1,q⟩:=hrel;have a2:R.length=b.length:=(by have:=HL.out;omega);by_cases z:i<b.length
  · obtain⟨b1,o1,c1,a3,e1⟩:=(Q.fr q).cell1 (fun c=>Fk.u8 c) rfl i (by omega);obtain⟨b2,o2,c2,bv,e2⟩:=(U.fr q).cell1 (fun c=>Fk.u8 c) rfl i z;have HX:=ad (ba.out i (by omega) z (by omega));generalize h[i]'(by omega)=x at *;generalize b[i]=y at *;rw [D]at a3;cases a3;cases bv;have e3:wr.cell? ⟨r,y.toNat,none⟩=some (B8 (aJ c y.toNat)):=(by rw [aA a1];exact Bc c _ y.toNat_lt);have cj:=y.toNat_lt;have a4:=mT c y.toNat O;have hx:=tF x.toNat (aJ c y.toNat) x.toNat_lt a4;have b0:x.toNat ^^^ aJ c y.toNat<2 ^ 8:=jz x.toNat_lt a4;generalize aJ c y.toNat=m at *;have a5:=uA R (0:UInt8) b.length i a2 hi;obtain⟨k0,k1⟩:=B.cellAt Fk.u8 rfl i (by rw [a5];exact z);have a6:=B.set Fk.u8 rfl i (by rw [a5];exact z) (UInt8.ofNat (x.toNat ^^^ m)) (B8 (x.toNat ^^^ m)) (pT _ b0).symm;rw [uz R 0 b.length i a2 z _ HX.out]at a6;have cn:(i:Int)<b.length:=(by omega);have cp:(0:Int)<=i:=(by omega);have cq:(y.toNat:Int)<256:=(by omega);have cs:(0:Int)<=y.toNat:=(by omega);go_wp2_with fail;go_roundw;case rel=>exact⟨i+1,by omega,by go_num,a6,by rw [nw _ _ _ _ (by simp;omega)];exact a1,ex q av (Below.size q)⟩
    case measure=>simp [intOf];omega
  · obtain rfl:i=b.length:=(by omega);have ct:¬((b.length:Int)<b.length):=(by omega);rw [guQc,vz,gq,eC (by omega)]at B;go_wp2_with fail;exact aL (v:=.tuple #[.slice (some ⟨g,0,none⟩) b.length b.length,.int .i64 0]) (by simp [results,Tryz.results162,go_sem, *]) rfl ⟨_,rfl,B.rebase av,q⟩
end Go.Proofs.YtfpijnhhdfoohaaGreatDoor
