/- Lemmas for ThreeTurned. -/
import Derived.Test.YtndbpldeabnkbaaGreatDoorM11
import Derived.Test.YtndbpldeabnkbaaGreatDoorM06
set_option linter.all false
set_option maxHeartbeats 8000000
set_option maxRecDepth 100000
namespace Go.Fk
abbrev fz:=@Go.wpList_store_row
abbrev iIQb:=@List.all_toArray
abbrev iTQb:=@Nat.le_of_eq
abbrev iqQb:=@Go.setRow_heap
abbrev ml:=@Go.wpList_load_row
abbrev pEQb:=@List.all_eq_true
abbrev uAQb:=@Array.getElem?_eq_none
abbrev zwQb:=@Array.getElem?_setIfInBounds_ne
abbrev wwQb:=@List.replicate_zero
abbrev vZ:=@Go.results_cell_row
end Go.Fk
namespace Go.Proofs.YtndbpldeabnkbaaGreatDoor
open Go.RowKit Go.Fk
def cS(c:Nat):Array Value:=((List.range 256).map λi=>B8 (aS c i)).toArray
def dl(w:World)(g:Nat)(d:Array Value):ai (λk=>k=g) w (w.setRow g d):=
 ⟨rfl,rfl,rfl,by simp[World.setRow],λk _ e=>setRow_other w g k d e⟩
def Jt(c:Nat)(O:c<256)(w:World):Calls Tryz.prog 166 #[B8 c] w λe w'=>e=.returned (.agg (cS c))/\Fr w w':=by
 have av:∃h:Array Value,Tryz.zeroCells260=h/\h.size=256/\h[0]?=some (B8 (aS c 0)):=⟨_,rfl,by kernel_rfl,by rw[F3];kernel_rfl⟩;obtain⟨d,a0,X,Y⟩:=av;go_in;go_wp2_with fail;have Z:(((w.alloc (.cells d 260)).alloc (.cells d 260)).heap[w.heap.size]?)=some (.cells d 260 (0,0)):=by rw[jk _ _ _ σ,aB _ _ _ rfl]
 have aa:(((w.alloc (.cells d 260)).alloc (.cells d 260)).heap[w.heap.size+1]?)=some (.cells d 260 (0,0)):=aB _ _ _ σ;have ab:Fr w ((w.alloc (.cells d 260)).alloc (.cells d 260)):=((Fr.refl w).alloc _).alloc _;generalize (w.alloc (.cells d 260)).alloc (.cells d 260)=w0 at *;generalize F:w.heap.size=g at *;clear a0;go_loopw [4] (λQ wr=>∃(i:Nat) (h:Array Value),1<=i/\i<=256/\Q=N i/\wr.heap[g]?=some (.cells d 260 (0,0))/\wr.heap[g+1]?=some (.cells h 260 (0,0))/\h.size=256/\Hid (∀j,j<i->h[j]?=some (B8 (aS c j)))/\Below g w wr) (λQ _=>256-(intOf Q).toNat)
 case atStart => exact ⟨1, d, al _, by omega, rfl, Z, aa, X, by intro j z; obtain rfl : j = 0 := by omega
                                                                exact Y, by rw[← F]; exact ab⟩
 case round=>
  clear Z aa ab Y;obtain⟨i,h,bb,bc,rfl,G,m,D,I,o⟩:=hrel;by_cases J:i<256
  ·have bd:(i:Int)<256:=ω;have e1:wr.cell? ⟨g+1,i / 2,none⟩=some (B8 (aS c (i / 2))):=(by rw[aK m];exact I.out _ ω);have e2:wr.frozen? ⟨g+1,i,none⟩=false:=a8 m i;have e3:∃u,wr.cell? ⟨g+1,i,none⟩=some u:=(by rw[aK m];exact⟨h[i]'ω,by simp[J,D]⟩);obtain⟨u0,e3⟩:=e3;have hm:=nU c (i / 2) O;have K:=ad (Qc c i O J);have i3:(i:Int) / 2<256:=ω;have i4:(0:Int)<=(i:Int) / 2:=ω;have i5:((i:Int) / 2).toNat=i / 2:=ω;have i6:(0:Int)<=i:=ω;have HT:=ad (zL (aS c (i / 2)) hm);have a2:=r9 _ hm;go_wp2_with fail;refine(HT.out _).mono ?_;rintro e w1 ⟨rfl,rfl⟩;generalize gh (aS c (i / 2))=t at *;by_cases L:i%2=1
   ·have o1:(i:Int)%2=1:=ω;have hx:=uB t c a2 O;have R:Hid (aS c i=t ^^^ c):=ad (by rw[K.out,af L]);clear K L;go_wp2;go_roundw
    case rel=>
     refine⟨i+1,(h.setIfInBounds i (B8 t)).setIfInBounds i (B8 (t ^^^ c)),ω,ω,γ,?_,?_,by simp[D],?_,?_⟩;·rw[oA _ _ _ _ σ,oA _ _ _ _ σ];exact G
     ·exact aJ (aJ m i _) i _
     ·intro j z;by_cases e:j=i;·subst e;rw[R.out];simp[D,J]
      ·rw[zwQb (iG e),zwQb (iG e)];exact I.out j ω
     ·have M:=ay (iTQb F.symm) (Below.size o);exact ep (ep o (Nat.le_succ g) M) (Nat.le_succ g) (by simpa [World.setCell] using M)
    case measure=>exact μ
   ·have o1:(i:Int)%2=0:=ω;have R:Hid (aS c i=t):=ad (by rw[K.out,ae L,ug]);clear K L;go_wp2;go_roundw
    case rel=>
     refine⟨i+1,h.setIfInBounds i (B8 t),ω,ω,γ,?_,?_,by simp[D],?_,?_⟩;·rw[oA _ _ _ _ σ];exact G
     ·exact aJ m i _
     ·intro j z;by_cases e:j=i;·subst e;rw[R.out];simp[D,J]
      ·rw[zwQb (iG e)];exact I.out j ω
     ·have M:=ay (iTQb F.symm) (Below.size o);exact ep o (Nat.le_succ g) M
    case measure=>exact μ
  ·obtain rfl:i=256:=ω;have a4:h=cS c:=by
    apply Array.ext_getElem?;intro j;by_cases z:j<256;·rw[I.out j z];unfold cS;simp[z]
    ·rw[uAQb ω,uAQb (by unfold cS;simp;omega)]
   subst a4;have a5:(cS c).all (·.oneCell')=true:=(by unfold cS;rw [iIQb,pEQb];intro u hu;obtain⟨_,_,rfl⟩:=ee.1 hu;rfl);have a7:(Tryz.prog.info? 260).map (·.size)=some 256:=(by kernel_rfl);have ak:(cS c).size=256:=(by simp [cS]);have U:(Tryz.prog.info? 260).map (·.size)=some (cS c).size:=(by rw [ak];exact a7);have V:=ad o;clear o;go_wp2_with (first | (refine ml rfl 260 (.tmp 3) rfl (g+1) rfl 260 (cS c) (0,0) _ m Tryz.underlying260 rfl U ?_) | (refine fz rfl 260 (.tmp 2) (.tmp 25) rfl g (cS c) rfl rfl 260 d G U (by rw [ak,X]) a5 ?_));exact bFQb (v := .agg (cS c)) (vZ Tryz.results166 _ _ g 260 (cS c) (0, 0) _ rfl (iqQb _ g d (cS c) _ _ G) Tryz.underlying260 rfl U) rfl ⟨rfl, by
     have h9 := dl wr g (cS c);rw[← F] at V h9 ⊢
     exact ai.below V.out h9 (Below.size V.out) (λk hk => iTQb hk.symm)⟩
def E8(c j:Nat)(h:j<256):(cS c)[j]?=some (B8 (aS c j)):=by unfold cS;simp[h]
def JS(O Q:Value)(h b:Z0)(c:Nat)(U:c<256)(w:World)(V:ah w eB O h)(X:ah w eB Q b)(G:h.length=b.length)(hn:h.length<=1000000):Calls Tryz.prog 131 #[O,B8 c,Q] w λe w'=>∃v,e=.returned (.tuple #[v,.int .i64 0])/\Ow w' w.heap.size eB v (jc h c b)/\Fr w w':=by
 obtain⟨aa,ca,aC,_⟩:=V.shape;obtain⟨ab,cb,ba,_⟩:=X.shape;have Y:=ad (Jt c U);have Z:=VW h b c G;have bb:=ad (Jh h b c);generalize hR:jc h c b=R at *;have HL:=ad Z;clear hR Z;subst aC ba;rw[<- G];have bf:=oQ eB rfl rfl 30 Tryz.underlying30 .i64 .i64 b.length ω;go_in;go_upto_region 3 with fail;go_wp2_with fail;refine(Y.out _).mono ?_;rintro e d ⟨rfl,I⟩;have ac:(cS c).size=256:=by simp[cS]
 have bk:(cS c).all (·.oneCell')=true:=by unfold cS;rw[iIQb,pEQb];intro u hu;obtain⟨_,_,rfl⟩:=ee.1 hu;rfl
 have bm:(Tryz.prog.info? 260).map (·.size)=some (cS c).size:=by rw[ac];kernel_rfl
 have J:(d.alloc (.cells Tryz.zeroCells260 260)).heap[d.heap.size]?=some (.cells Tryz.zeroCells260 260 (0,0)):=aB _ _ _ rfl;have aj:(Tryz.zeroCells260).size=(cS c).size:=by rw[ac];kernel_rfl
 have K:=iqQb _ d.heap.size Tryz.zeroCells260 (cS c) _ _ J
 have L:Fr w ((d.alloc (.cells Tryz.zeroCells260 260)).setRow d.heap.size (cS c)):=
  ai.below (I.alloc _) (dl _ _ _) (by simp;have:=I.size;omega) (λk hk=>by rw[hk];exact I.size)
 have ak:=pT (base:=((d.alloc (.cells Tryz.zeroCells260 260)).setRow d.heap.size (cS c)).heap.size) eB rfl rfl b.length ω ((d.alloc (.cells Tryz.zeroCells260 260)).setRow d.heap.size (cS c)) (al _);generalize ap:(d.alloc (.cells Tryz.zeroCells260 260)).setRow d.heap.size (cS c)=o at *;have bs:d.heap.size<o.heap.size:=(aR.1 K).1;go_wp2_with (refine fz rfl 260 (.tmp 8) (.tmp 18) rfl d.heap.size (cS c) rfl rfl 260 Tryz.zeroCells260 J bm aj bk ?_;rw[ap]);have av:(o.alloc (.cells (madeCells #[eB.z] b.length) eB.e)).heap[d.heap.size]?=some (.cells (cS c) 260 (0,0)):=by rw[jk _ _ _ bs];exact K
 have a0:=L.size;have a1:Fr w (o.alloc (.cells (madeCells #[eB.z] b.length) eB.e)):=L.alloc _;generalize o.alloc (.cells (madeCells #[eB.z] b.length) eB.e)=w3 at *;generalize hg:o.heap.size=g at *;generalize d.heap.size=r at *;clear K L ap bf J Y aj;go_loopw [24] (λM wr=>∃i:Nat,i<=b.length/\M=N i/\Ow wr g eB (.slice (some ⟨g,0,none⟩) b.length b.length) (R.take i++List.replicate (b.length-i) 0)/\wr.heap[r]?=some (.cells (cS c) 260 (0,0))/\Fr w wr) (λM _=>b.length-(intOf M).toNat);case atStart=>exact⟨0,ar _,rfl,ak,av,a1⟩
 case round=>
  clear ak av a1;obtain⟨i,hi,rfl,F,a2,z⟩:=hrel;have a3:R.length=b.length:=(by have:=HL.out;omega);by_cases D:i<b.length
  ·obtain⟨b1,o1,c1,a4,e1⟩:=(V.fr z).cell1 (λc=>Fk.u8 c) rfl i ω;obtain⟨b2,o2,c2,bv,e2⟩:=(X.fr z).cell1 (λc=>Fk.u8 c) rfl i D;have HX:=ad (bb.out i ω D ω);generalize h[i]'ω=x at *;generalize b[i]=y at *;rw[G]at a4;cases a4;cases bv;have e3:wr.cell? ⟨r,y.toNat,none⟩=some (B8 (aS c y.toNat)):=(by rw[aK a2];exact E8 c _ y.toNat_lt);have cj:=y.toNat_lt;have a5:=nU c y.toNat U;have hx:=uB x.toNat (aS c y.toNat) x.toNat_lt a5;have b0:x.toNat ^^^ aS c y.toNat<2^8:=jV x.toNat_lt a5;generalize aS c y.toNat=m at *;have a6:=vF R (0:UInt8) b.length i a3 hi;obtain⟨k0,k1⟩:=F.cellAt Fk.u8 rfl i (by rw[a6];exact D);have a7:=F.set Fk.u8 rfl i (by rw[a6];exact D) (UInt8.ofNat (x.toNat ^^^ m)) (B8 (x.toNat ^^^ m)) (sd _ b0).symm;rw[vE R 0 b.length i a3 D _ HX.out]at a7;have cn:(i:Int)<b.length:=ω;have cp:(0:Int)<=i:=ω;have cq:(y.toNat:Int)<256:=ω;have cs:(0:Int)<=y.toNat:=ω;go_wp2;go_roundw;case rel=>exact⟨i+1,ω,γ,a7,by rw[oA _ _ _ _ (by simp;omega)];exact a2,ep z a0 (Below.size z)⟩
   case measure=>exact μ
  ·obtain rfl:i=b.length:=ω;have ct:¬((b.length:Int)<b.length):=ω;rw[fY,wwQb,dg,cw ω]at F;go_wp2_with fail;exact bFQb (v:=.tuple #[.slice (some ⟨g,0,none⟩) b.length b.length,.int .i64 0]) (by simp[results,Tryz.results131,go_sem, *]) rfl ⟨_,rfl,F.rebase a0,z⟩
