/- Lemmas. -/
import Derived.Test.YtmcaneofjlhhmaaGreatDoorM06
import Derived.Test.YtmcaneofjlhhmaaGreatDoorM07
set_option linter.all false
set_option maxHeartbeats 8000000
set_option maxRecDepth 100000
namespace Go.Fk
abbrev bB:=@Go.wpList_store_row
abbrev dQQb:=@List.all_toArray
abbrev dM:=@Go.wpList_load_row
abbrev bYQb:=@Go.setRow_heap
abbrev eAQc:=@Nat.sub_self
abbrev gpQb:=@Nat.le_of_eq
abbrev sOQb:=@Array.getElem?_setIfInBounds_ne
abbrev n6Qb:=@List.all_eq_true
abbrev qZQb:=@Array.getElem?_eq_none
abbrev py:=@Go.results_cell_row
abbrev uWQb:=@List.replicate_zero
end Go.Fk
namespace Go.Proofs
open RowKit Fk Tryz
def dp(c:Nat):Array Value:=((List.range 256).map λi=>B8 (aO c i)).toArray
def bh(w:World)(g:Nat)(d:Array Value):ag (λk=>k=g) w (w.setRow g d):=
 ⟨rfl,rfl,rfl,by simp[World.setRow],λk _ e=>setRow_other w g k d e⟩
def EQ(c:Nat)(L:c<256)(w:World):Calls prog 237 #[B8 c] w λe w'=>e=.returned (.agg (dp c))/\Fr w w':=by
 have ah:∃h:Array Value,zeroCells322=h/\h.size=256/\h[0]?=some (B8 (aO c 0)):=⟨_,rfl,by kernel_rfl,by rw[xy];kernel_rfl⟩;obtain⟨d,ai,U,V⟩:=ah;go_in;go_wp2_with fail;have W:(((w.alloc (.cells d 322)).alloc (.cells d 322)).heap[w.heap.size]?)=some (.cells d 322 (0,0)):=by rw[gn _ _ _ σ,aD _ _ _ rfl]
 have X:(((w.alloc (.cells d 322)).alloc (.cells d 322)).heap[w.heap.size+1]?)=some (.cells d 322 (0,0)):=aD _ _ _ σ;have Y:Fr w ((w.alloc (.cells d 322)).alloc (.cells d 322)):=((Fr.refl w).alloc _).alloc _;generalize (w.alloc (.cells d 322)).alloc (.cells d 322)=w0 at *;generalize z:w.heap.size=g at *;clear ai;go_loopw [4] (λM wr=>∃(i:Nat) (h:Array Value),1<=i/\i<=256/\M=N i/\wr.heap[g]?=some (.cells d 322 (0,0))/\wr.heap[g+1]?=some (.cells h 322 (0,0))/\h.size=256/\Hid (∀j,j<i->h[j]?=some (B8 (aO c j)))/\Below g w wr) (λM _=>256-(intOf M).toNat)
 case atStart => exact ⟨1, d, au _, by omega, rfl, W, X, U, by intro j p; obtain rfl : j = 0 := by omega
                                                               exact V, by rw[← z]; exact Y⟩
 ·
  clear W X Y V;obtain⟨i,h,a2,a3,rfl,D,m,q,F,o⟩:=hrel;by_cases G:i<256
  ·have a4:(i:Int)<256:=ω;have e1:wr.cell? ⟨g+1,i / 2,none⟩=some (B8 (aO c (i / 2))):=(by rw[aG m];exact F.out _ ω);have e2:wr.frozen? ⟨g+1,i,none⟩=false:=aB m i;have Z:∃u,wr.cell? ⟨g+1,i,none⟩=some u:=(by rw[aG m];exact⟨h[i]'ω,by simp[G,q]⟩);obtain⟨u0,Z⟩:=Z;have hm:=kp c (i / 2) L;have I:=ad (Ki c i L G);have i3:(i:Int) / 2<256:=ω;have i4:(0:Int)<=(i:Int) / 2:=ω;have i5:((i:Int) / 2).toNat=i / 2:=ω;have i6:(0:Int)<=i:=ω;have HT:=ad (vI (aO c (i / 2)) hm);have ak:=o0 _ hm;go_wp2_with fail;refine(HT.out _).mono ?_;rintro e w1 ⟨rfl,rfl⟩;generalize fo (aO c (i / 2))=t at *;by_cases J:i%2=1
   ·have o1:(i:Int)%2=1:=ω;have hx:=ow t c ak L;have O:Hid (aO c i=t ^^^ c):=ad (by rw[I.out,an J]);clear I J;go_wp2;go_roundw
    ·
     refine⟨i+1,(h.setIfInBounds i (B8 t)).setIfInBounds i (B8 (t ^^^ c)),ω,ω,γ,?_,?_,by simp[q],?_,?_⟩;·rw[kh _ _ _ _ σ,kh _ _ _ _ σ];exact D
     ·exact aI (aI m i _) i _
     ·intro j p;by_cases e:j=i;·subst e;rw[O.out];simp[q,G]
      ·rw[sOQb (jj e),sOQb (jj e)];exact F.out j ω
     ·have K:=ar (gpQb z.symm) (Below.size o);exact eP (eP o (Nat.le_succ g) K) (Nat.le_succ g) (by simpa [World.setCell] using K)
    ·exact μ
   ·have o1:(i:Int)%2=0:=ω;have O:Hid (aO c i=t):=ad (by rw[I.out,ae J,Nat.xor_zero]);clear I J;go_wp2;go_roundw
    ·
     refine⟨i+1,h.setIfInBounds i (B8 t),ω,ω,γ,?_,?_,by simp[q],?_,?_⟩;·rw[kh _ _ _ _ σ];exact D
     ·exact aI m i _
     ·intro j p;by_cases e:j=i;·subst e;rw[O.out];simp[q,G]
      ·rw[sOQb (jj e)];exact F.out j ω
     ·have K:=ar (gpQb z.symm) (Below.size o);exact eP o (Nat.le_succ g) K
    ·exact μ
  ·obtain rfl:i=256:=ω;have am:h=dp c:=by
    apply Array.ext_getElem?;intro j;by_cases p:j<256;·rw[F.out j p];unfold dp;simp[p]
    ·rw[qZQb ω,qZQb (by unfold dp;simp;omega)]
   subst am;have ap:(dp c).all (·.oneCell')=true:=(by unfold dp;rw [dQQb,n6Qb];intro u hu;obtain⟨_,_,rfl⟩:=jE.1 hu;rfl);have az:(prog.info? 322).map (·.size)=some 256:=(by kernel_rfl);have ab:(dp c).size=256:=(by simp [dp]);have Q:(prog.info? 322).map (·.size)=some (dp c).size:=(by rw [ab];exact az);have R:=ad o;clear o;go_wp2_with (first | (refine dM rfl 322 (.tmp 3) rfl (g+1) rfl 322 (dp c) (0,0) _ m underlying322 rfl Q ?_) | (refine bB rfl 322 (.tmp 2) (.tmp 25) rfl g (dp c) rfl rfl 322 d D Q (by rw [ab,U]) ap ?_));exact aT (py results237 _ _ g 322 (dp c) (0, 0) _ rfl (bYQb _ g d (dp c) _ _ D) underlying322 rfl Q) rfl ⟨rfl, by
     have h9 := bh wr g (dp c);rw[← z] at R h9 ⊢
     exact ag.below R.out h9 (Below.size R.out) (λk hk => gpQb hk.symm)⟩
def Bl(c j:Nat)(h:j<256):(dp c)[j]?=some (B8 (aO c j)):=by unfold dp;simp[h]
def F8(L M:Value)(h b:U0)(c:Nat)(O:c<256)(w:World)(Q:ao w eB L h)(U:ao w eB M b)(D:h.length=b.length)(hn:h.length<=1000000):Calls prog 174 #[L,B8 c,M] w λe w'=>∃v,e=.returned (.tuple #[v,.int .i64 0])/\Ow w' w.heap.size eB v (gT h c b)/\Fr w w':=by
 obtain⟨aa,ca,a0,_⟩:=Q.shape;obtain⟨ab,cb,a1,_⟩:=U.shape;have V:=ad (EQ c O);have W:=O5 h b c D;have a2:=ad (EI h b c);generalize hR:gT h c b=R at *;have HL:=ad W;clear hR W;subst a0 a1;rw[<- D];have a5:=mS eB rfl rfl 22 sJ .i64 .i64 b.length ω;go_in;go_upto_region 3 with fail;go_wp2_with fail;refine(V.out _).mono ?_;rintro e d ⟨rfl,F⟩;have X:(dp c).size=256:=by simp[dp]
 have a6:(dp c).all (·.oneCell')=true:=by unfold dp;rw[dQQb,n6Qb];intro u hu;obtain⟨_,_,rfl⟩:=jE.1 hu;rfl
 have a8:(prog.info? 322).map (·.size)=some (dp c).size:=by rw[X];kernel_rfl
 have G:(d.alloc (.cells zeroCells322 322)).heap[d.heap.size]?=some (.cells zeroCells322 322 (0,0)):=aD _ _ _ rfl;have Y:(zeroCells322).size=(dp c).size:=by rw[X];kernel_rfl
 have I:=bYQb _ d.heap.size zeroCells322 (dp c) _ _ G
 have J:Fr w ((d.alloc (.cells zeroCells322 322)).setRow d.heap.size (dp c)):=
  ag.below (F.alloc _) (bh _ _ _) (by simp;have:=F.size;omega) (λk hk=>by rw[hk];exact F.size)
 have Z:=nN (base:=((d.alloc (.cells zeroCells322 322)).setRow d.heap.size (dp c)).heap.size) eB rfl rfl b.length ω ((d.alloc (.cells zeroCells322 322)).setRow d.heap.size (dp c)) (au _);generalize ac:(d.alloc (.cells zeroCells322 322)).setRow d.heap.size (dp c)=o at *;have aC:d.heap.size<o.heap.size:=(aX.1 I).1;go_wp2_with (refine bB rfl 322 (.tmp 8) (.tmp 18) rfl d.heap.size (dp c) rfl rfl 322 zeroCells322 G a8 Y a6 ?_;rw[ac]);have ah:(o.alloc (.cells (madeCells #[eB.z] b.length) eB.e)).heap[d.heap.size]?=some (.cells (dp c) 322 (0,0)):=by rw[gn _ _ _ aC];exact I
 have ai:=J.size;have aj:Fr w (o.alloc (.cells (madeCells #[eB.z] b.length) eB.e)):=J.alloc _;generalize o.alloc (.cells (madeCells #[eB.z] b.length) eB.e)=w3 at *;generalize hg:o.heap.size=g at *;generalize d.heap.size=r at *;clear I J ac a5 G V Y;go_loopw [24] (λK wr=>∃i:Nat,i<=b.length/\K=N i/\Ow wr g eB (.slice (some ⟨g,0,none⟩) b.length b.length) (R.take i++List.replicate (b.length-i) 0)/\wr.heap[r]?=some (.cells (dp c) 322 (0,0))/\Fr w wr) (λK _=>b.length-(intOf K).toNat);·exact⟨0,ax _,rfl,Z,ah,aj⟩
 ·
  clear Z ah aj;obtain⟨i,hi,rfl,z,ak,p⟩:=hrel;have al:R.length=b.length:=(by have:=HL.out;omega);by_cases q:i<b.length
  ·obtain⟨b1,o1,c1,am,e1⟩:=(Q.fr p).cell1 (λc=>Fk.u8 c) rfl i ω;obtain⟨b2,o2,c2,bb,e2⟩:=(U.fr p).cell1 (λc=>Fk.u8 c) rfl i q;have HX:=ad (a2.out i ω q ω);generalize h[i]'ω=x at *;generalize b[i]=y at *;rw[D]at am;cases am;cases bb;have e3:wr.cell? ⟨r,y.toNat,none⟩=some (B8 (aO c y.toNat)):=(by rw[aG ak];exact Bl c _ y.toNat_lt);have b6:=y.toNat_lt;have ap:=kp c y.toNat O;have hx:=ow x.toNat (aO c y.toNat) x.toNat_lt ap;have bd:x.toNat ^^^ aO c y.toNat<2^8:=ix x.toNat_lt ap;generalize aO c y.toNat=m at *;have av:=ug R (0:UInt8) b.length i al hi;obtain⟨k0,k1⟩:=z.cellAt Fk.u8 rfl i (by rw[av];exact q);have az:=z.set Fk.u8 rfl i (by rw[av];exact q) (UInt8.ofNat (x.toNat ^^^ m)) (B8 (x.toNat ^^^ m)) (qk _ bd).symm;rw[uf R 0 b.length i al q _ HX.out]at az;have bG:(i:Int)<b.length:=ω;have bL:(0:Int)<=i:=ω;have bR:(y.toNat:Int)<256:=ω;have bS:(0:Int)<=y.toNat:=ω;go_wp2;go_roundw;·exact⟨i+1,ω,γ,az,by rw[kh _ _ _ _ (by simp;omega)];exact ak,eP p ai (Below.size p)⟩
   ·exact μ
  ·obtain rfl:i=b.length:=ω;have bT:¬((b.length:Int)<b.length):=ω;rw[eAQc,uWQb,iJ,dN ω]at z;go_wp2_with fail;exact aT (by simp[results,results174,go_sem, *]) rfl ⟨_,rfl,z.rebase ai,p⟩
