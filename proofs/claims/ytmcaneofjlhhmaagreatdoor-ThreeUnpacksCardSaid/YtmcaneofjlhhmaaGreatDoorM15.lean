/- Lemmas. -/
import Derived.Test.YtmcaneofjlhhmaaGreatDoorM13
import Derived.Test.YtmcaneofjlhhmaaGreatDoorM08
set_option linter.all false
set_option maxHeartbeats 8000000
set_option maxRecDepth 100000
namespace Go.Fk
abbrev fk:=@Go.cell_setRow_same
abbrev ik:=@Nat.succ_mul
abbrev kQQb:=@Int.natCast_mul
abbrev qU:=@Go.Calls.quiet_of_same
abbrev oiQb:=@List.take_zero
end Go.Fk
namespace Go.Proofs
open RowKit Fk Tryz
def kZ(a:Nat):Nat:=if a=0 then 0 else iB a
def iQ(k i j:Nat):UInt8:=UInt8.ofNat (kZ ((k+i) ^^^ j))
def qh(k i n:Nat):U0:=(List.range n).map (iQ k i)
def bF(k i j:Nat):U0:=((List.range i).map λi=>qh k i k).flatten++qh k i j
def y8(k i j:Nat):bF k i (j+1)=bF k i j++[iQ k i j]:=by
 unfold bF qh;rw[jD,gq,iK];rfl
def y9(k i:Nat):bF k (i+1) 0=bF k i k:=by
 unfold bF;rw[jD,gq,qP];simp[qh]
def yz(k:Nat):bF k 0 0=[]:=by simp[bF,qh]
def qj(k i j:Nat):(bF k i j).length=i*k+j:=by
 unfold bF qh;rw[aM,fw,ot,List.length_flatten,ny];have:∀n,((List.range n).map (List.length ∘ λi=>(List.range k).map (iQ k i))).sum=n*k:=by
  intro n
  induction n with
  | zero=>simp
  | succ n d=>rw[jD,gq,mC,d];simp[ik]
 rw[this]
def nU(k m:Nat)(v:Value):Value:=.agg #[N m,N k,v]
def tY(a:Nat):∃e:Int,nP a=.tuple #[B8 (kZ a),.int .i64 e]:=by
 unfold nP kZ;split;·exact⟨13,rfl⟩
 ·exact⟨0,rfl⟩
def xR(a:Nat)(h:a<256):kZ a<256:=by
 unfold kZ;split;·omega
 ·exact(rT a (by assumption) h).1
def Fc(k m:Nat)(hk:1<=k)(a7:k+m<=255)(w:World):Calls prog 206 #[N k,N m] w λe w'=>∃v,e=.returned (.tuple #[nU k m v,.int .i64 0])/\Ow w' w.heap.size eB v (bF k m 0)/\Fr w w':=by
 go_in;go_wp2_with fail;have M:((w.alloc (.cells #[.int .i64 0,.int .i64 0,.slice none 0 0] 165)).alloc (.cells #[N m,N k,.slice none 0 0] 165)).heap[w.heap.size]?=some (.cells #[.int .i64 0,.int .i64 0,.slice none 0 0] 165 (0,0)):=by rw[gn _ _ _ σ,aD _ _ _ rfl]
 have O:((w.alloc (.cells #[.int .i64 0,.int .i64 0,.slice none 0 0] 165)).alloc (.cells #[N m,N k,.slice none 0 0] 165)).heap[w.heap.size+1]?=some (.cells #[N m,N k,.slice none 0 0] 165 (0,0)):=aD _ _ _ σ;have Q:Fr w ((w.alloc (.cells #[.int .i64 0,.int .i64 0,.slice none 0 0] 165)).alloc (.cells #[N m,N k,.slice none 0 0] 165)):=((Fr.refl w).alloc _).alloc _;have R:w.heap.size+2<=((w.alloc (.cells #[.int .i64 0,.int .i64 0,.slice none 0 0] 165)).alloc (.cells #[N m,N k,.slice none 0 0] 165)).heap.size:=σ
 generalize (w.alloc (.cells #[.int .i64 0,.int .i64 0,.slice none 0 0] 165)).alloc (.cells #[N m,N k,.slice none 0 0] 165)=w0 at *;generalize U:w.heap.size=g at *;have V:Below g w w0:=by rw[<- U];exact Q
 clear Q;go_loopw [7] (λI wr=>∃(i:Nat) (d:Value),i<=m/\I=N i/\wr.heap[g]?=some (.cells #[.int .i64 0,.int .i64 0,.slice none 0 0] 165 (0,0))/\wr.heap[g+1]?=some (.cells #[N m,N k,d] 165 (0,0))/\Ow wr (g+2) eB d (bF k i 0)/\Below g w wr/\g+2<=wr.heap.size) (λI _=>m-(intOf I).toNat);·exact⟨0,.slice none 0 0,ax _,rfl,M,O,by rw[yz];exact Ow.nil,V,R⟩
 ·
  clear M O V R;obtain⟨i,d,hi,rfl,o,p,h,z,D⟩:=hrel;by_cases a9:i<m
  ·have aC:(i:Int)<m:=ω;go_wp2;go_loopw [8] (λJ wr=>∃(j:Nat) (d:Value),j<=k/\J=N j/\wr.heap[g]?=some (.cells #[.int .i64 0,.int .i64 0,.slice none 0 0] 165 (0,0))/\wr.heap[g+1]?=some (.cells #[N m,N k,d] 165 (0,0))/\Ow wr (g+2) eB d (bF k i j)/\Below g w wr/\g+2<=wr.heap.size) (λJ _=>k-(intOf J).toNat);·exact⟨0,d,ax _,rfl,o,p,h,z,D⟩
   ·
    clear o p h z D;obtain⟨j,d,hj,rfl,o,p,h,z,D⟩:=hrel;by_cases bb:j<k
    ·have bc:(j:Int)<k:=ω;have W:(k+i) ^^^ j<2^8:=ix ω ω;have X:=ow (k+i) j ω ω;have am:((k:Int)+i)%256=((k+i:Nat):Int):=ω;have bd:(j:Int)%256=j:=ω;have be:bits .xor .u8 ((k:Int)+i) (j:Int)=(((k+i) ^^^ j:Nat):Int):=(by rw[show(k:Int)+i=((k+i:Nat):Int) by omega];exact X);have Y:Hid (bF k i (j+1)=bF k i j++[iQ k i j]):=y8 k i j;have ap:=qj k i j;have av:i*k<=255*255:=bo ω ω;have az:(bF k i j).length+1<=2147483648:=ω;have HB:Hid ((#[B8 (kZ ((k+i) ^^^ j))]:Array Value).toList=eB.cells [iQ k i j]):=mo _ (xR _ W);have Z:=ad (EZ ((k+i) ^^^ j) W);obtain⟨er,aa⟩:=tY ((k+i) ^^^ j);rw[aa]at Z;clear X am ap av aa;generalize (k+i) ^^^ j=x at *;generalize iQ k i j=c,kZ x=y at *;have e2:=af p 2 rfl;go_wp2_with fail;refine(Z.out _).mono ?_;rintro e w1 ⟨rfl,rfl⟩;go_wp2_with (at_builtin;refine bA eB rfl (.tmp 57) (.tmp 59) 22 rfl sJ (g+2) rfl h [c] _ _ _ HB.out rfl rfl az D ?_);intro v' w4 F;have K:=F.own;obtain⟨va,vc,ah⟩:=K.shape';rw[<- Y.out]at ah;subst ah;have ai:∀q,q<g+2->¬d.ownBlock=some q:=λq G e=>(by have:=(h.lt q e).1;omega);have k0:=F.chg'.heap o (ai g ω);have L:=F.chg'.heap p (ai (g+1) ω);have a2:Below g w w4:=F.below h z ω ω;have bm:=F.size;have e3:=af L 2 rfl;have e4:w4.frozen? ⟨g+1,2,none⟩=false:=aB L 2;go_wp2;go_roundw
     ·
      refine⟨j+1,.slice va (bF k i (j+1)).length vc,ω,γ,?_,?_,?_,?_,?_⟩;·rw[kh _ _ _ _ σ];exact k0
      ·exact aI L 2 _
      ·rw[<- Y.out]at K;exact de K ω
      ·exact eP a2 ω ω
      ·simp[World.setCell];omega
     ·exact μ
    ·obtain rfl:j=k:=ω;have a3:¬((j:Int)<j):=ω;rw[<- y9]at h;go_wp2;go_roundw;·exact⟨i+1,d,ω,γ,o,p,h,z,D⟩
     ·exact μ
  ·obtain rfl:i=m:=ω;have a3:¬((i:Int)<i):=ω;have aj:(prog.info? 165).map (·.size)=some 3:=(by kernel_rfl);have a4:(#[N i,N k,d]:Array Value).all (·.oneCell')=true:=(by obtain⟨va,vc,rfl⟩:=h.shape';rw[dQQb];rfl);have q0:=fk wr g 0 _ #[N i,N k,d] _ _ o;have q1:=fk wr g 1 _ #[N i,N k,d] _ _ o;have q2:=fk wr g 2 _ #[N i,N k,d] _ _ o;have a5:Ow (wr.setRow g #[N i,N k,d]) (g+2) eB d (bF k i 0):=h.chg (bh wr g _) λq G=>(by have:=(h.lt q G).1;show ¬q=g;omega);have ak:Below g w (wr.setRow g #[N i,N k,d]):=ag.below z (bh wr g _) ω (λq G=>gpQb G.symm);go_wp2_with (first | (refine dM rfl 165 (.tmp 6) rfl (g+1) rfl 165 #[N i,N k,d] (0,0) _ p uAF rfl aj ?_) | (refine bB rfl 165 (.tmp 4) (.tmp 62) rfl g #[N i,N k,d] rfl rfl 165 _ o aj rfl a4 ?_));exact aT (by simp[results,results206,go_sem, *];rfl) rfl ⟨_,rfl,a5.rebase ω,by rw[<- U]at ak ⊢;exact ak⟩
def ro(n:Nat)(h:n<=255)(w:World):Calls prog 170 #[N n] w λe w'=>e=.returned (.bool true)/\w=w':=by
 have d:(0:Int)<=n:=ω
 have m:(n:Int)<=255:=ω
 go_in;go_wp2;go_ret;exact⟨rfl,rfl⟩
def N0(k i j B:Nat)(p:k+i<=255)(q:j<=255)(w:World)(z:w.cell? ⟨B,0,none⟩=some (N k)):Calls prog 172 #[N i,N j,.pointer (some ⟨B,0,none⟩)] w λe w'=>e=.returned (Fk.u8 (iQ k i j))/\w=w':=by
 have d:(k+i) ^^^ j<2^8:=ix ω ω;have A:bits .xor .i64 ((k:Int)+i) (j:Int)=(((k+i) ^^^ j:Nat):Int):=by rw[show(k:Int)+i=((k+i:Nat):Int) by omega];exact vu (k+i) j ω ω
 have h:=ad (Fs ((k+i) ^^^ j) d);obtain⟨D,m⟩:=tY ((k+i) ^^^ j);rw[m]at h;have o:Hid (B8 (kZ ((k+i) ^^^ j))=Fk.u8 (iQ k i j)):=qk _ (xR _ d);clear m;generalize (k+i) ^^^ j=x at *;generalize kZ x=y at *;have F:(x:Int)%256=x:=ω
 go_in;go_wp2_with fail;refine(h.out _).mono ?_;rintro e G ⟨rfl,rfl⟩;go_wp2;go_ret;exact⟨iG Ending.returned o.out,rfl⟩
def K4(k m B:Nat)(hk:1<=k)(b2:k+m<=255)(w:World)(Z:w.cell? ⟨B,0,none⟩=some (N k)):Calls prog 171 #[N m,N k,.func (.func 172) #[] #[.pointer (some ⟨B,0,none⟩)]] w λe w'=>∃v,e=.returned (nU k m v)/\Ow w' w.heap.size eB v (bF k m 0)/\Fr w w':=by
 have a8:IntKind.i64.wrap ((m:Int)*k)=((m*k:Nat):Int):=by have:m*k<=255*255:=bo ω ω;rw[show(m:Int)*k=((m*k:Nat):Int) by simp];exact dS _ ω
 go_in;have aa:m*k<=1000000000:=by have:m*k<=255*255:=bo ω ω;omega
 have ab:(m:Int)*k=((m*k:Nat):Int):=σ
 have ac:=ad ab;clear ab a8;go_upto_region 3 with(at_make;refine rm eB rfl (.const (.int .i64 0)) (.tmp 14) 22 rfl sJ .i64 .i64 _ (m*k) rfl rfl ac.out aa (w.heap.size+1) σ ?_);intro p o L;have ah:Fr w p:=ag.below ((Fr.refl w).alloc _) (lK L) σ (λq z=>by cases z);have D:p.heap[w.heap.size]?=some (.cells #[.int .i64 0,.int .i64 0,.slice none 0 0] 165 (0,0)):=(lK L).heap (aD _ _ _ rfl) (by intro q;cases q);have a9:=o.lt (w.heap.size+1) (by simp[Value.ownBlock]);have aC:w.heap.size+2<=p.heap.size:=ω
 have ai:(p.alloc (.cells #[N m,N k,.slice (some ⟨w.heap.size+1,0,none⟩) 0 (m*k)] 165)).heap[w.heap.size]?=some (.cells #[.int .i64 0,.int .i64 0,.slice none 0 0] 165 (0,0)):=by rw[gn _ _ _ ω];exact D
 have aj:(p.alloc (.cells #[N m,N k,.slice (some ⟨w.heap.size+1,0,none⟩) 0 (m*k)] 165)).heap[p.heap.size]?=some (.cells #[N m,N k,.slice (some ⟨w.heap.size+1,0,none⟩) 0 (m*k)] 165 (0,0)):=aD _ _ _ rfl;have ak:p.heap.size<(p.alloc (.cells #[N m,N k,.slice (some ⟨w.heap.size+1,0,none⟩) 0 (m*k)] 165)).heap.size:=σ
 have al:Fr w (p.alloc (.cells #[N m,N k,.slice (some ⟨w.heap.size+1,0,none⟩) 0 (m*k)] 165)):=ah.alloc _;have am:=o.fr ((Fr.refl p).alloc (.cells #[N m,N k,.slice (some ⟨w.heap.size+1,0,none⟩) 0 (m*k)] 165));have ap:(Value.slice (some ⟨w.heap.size+1,0,none⟩) 0 (m*k)).ownBlock≠some p.heap.size:=by simp[Value.ownBlock];omega
 go_upto_region 3 with fail;generalize p.alloc (.cells #[N m,N k,.slice (some ⟨w.heap.size+1,0,none⟩) 0 (m*k)] 165)=w0 at *;generalize bb:Value.slice (some ⟨w.heap.size+1,0,none⟩) 0 (m*k)=bc at *;generalize p.heap.size=r at *;have b3:w.heap.size<r:=ω
 clear aC a9 D ah L o bb aa ac;have M:=Z;generalize O:w.heap.size=g at *;have av:Below g w w0:=by rw[<- O];exact al
 clear al;go_loopw [18] (λQ wr=>∃(i:Nat) (d:Value),i<=m/\Q=N i/\wr.heap[g]?=some (.cells #[.int .i64 0,.int .i64 0,.slice none 0 0] 165 (0,0))/\wr.heap[r]?=some (.cells #[N m,N k,d] 165 (0,0))/\Ow wr (g+1) eB d (bF k i 0)/\d.ownBlock≠some r/\Below g w wr/\r<wr.heap.size) (λQ _=>m-(intOf Q).toNat);·exact⟨0,bc,ax _,rfl,ai,aj,by rw[yz];exact am,ap,av,ak⟩
 ·
  clear ai aj am ap av ak;obtain⟨i,d,hi,rfl,D,F,o,G,I,K⟩:=hrel;by_cases bd:i<m
  ·have be:(i:Int)<m:=ω;go_wp2;go_loopw [22] (λR wr=>∃(j:Nat) (d:Value),j<=k/\R=N j/\wr.heap[g]?=some (.cells #[.int .i64 0,.int .i64 0,.slice none 0 0] 165 (0,0))/\wr.heap[r]?=some (.cells #[N m,N k,d] 165 (0,0))/\Ow wr (g+1) eB d (bF k i j)/\d.ownBlock≠some r/\Below g w wr/\r<wr.heap.size) (λR _=>k-(intOf R).toNat);·exact⟨0,d,ax _,rfl,D,F,o,G,I,K⟩
   ·
    clear D F o G I K;obtain⟨j,d,hj,rfl,D,F,o,G,I,K⟩:=hrel;by_cases bf:j<k
    ·have b6:(j:Int)<k:=ω;have HS:Hid (bF k i (j+1)=bF k i j++[iQ k i j]):=y8 k i j;have bk:=qj k i j;have bl:i*k<=255*255:=bo ω ω;have bm:Hid ((bF k i j).length+1<=2147483648):=(by show _<=_;omega);have HI:Hid (∀W,Fr wr W->Calls prog 172 #[N i,N j,.pointer (some ⟨B,0,none⟩)] W λe w'=>e=.returned (Fk.u8 (iQ k i j))/\W=w'):=λW hW=>(by refine N0 k i j B ω ω W (hW.cell ?_);exact(Below.cell I (by rw[<- O];exact pz w _ M)).trans M);clear bk bl;generalize iQ k i j=c at *;have e2:=af F 2 rfl;have a1:Hid (g+1<=wr.drew.heap.size):=(by show _<=_;have:wr.drew.heap.size=wr.heap.size:=rfl;omega);have U:=o.drew;have bt:∀q,d.ownBlock=some q->g+1<=q:=λq z=>(o.lt q z).1;have b7:(j:Int)+1<=255:=ω;clear M Z bd bf be o hk;go_upto_region 8 with fail
     go_region_law (first
       | (refine oD eB rfl (.tmp 26) (.tmp 31) 22 rfl sJ (g + 1) rfl U [c] _ _ _ rfl rfl rfl bm.out a1.out ?_
          intro v' w4 J
          have V := J.own
          obtain ⟨va, vc, a4⟩ := V.shape'
          rw[← HS.out] at a4
          subst a4
          have k0 := J.chg'.heap (show wr.drew.heap[g]? = _ from D) (λe => by have := bt g e; omega)
          have X := J.chg'.heap (show wr.drew.heap[r]? = _ from F) G
          have bv : Below g w w4 := J.below U (Below.drew I) ω (by have := a1.out; omega)
          have b9 := J.size
          have a5 := J.fresh
          have e3 := af X 2 rfl
          have e4 : w4.frozen? ⟨r, 2, none⟩ = false := aB X 2)
       | (go_simp; go_at_call 172; refine (HI.out _ (Fr.drew (Fr.refl _))).mono ?_; rintro e w3 ⟨rfl, rfl⟩))
     all_goals clear HI e2 U
     all_goals go_wp2_with fail
     all_goals go_roundw
     all_goals first
      | (refine ⟨j + 1, .slice va (bF k i (j + 1)).length vc, by omega, by go_num, ?_, ?_, ?_, ?_, ?_, ?_⟩
         · rw[kh _ _ _ _ (by simp; omega)]; exact k0
         · exact aI X 2 _
         · rw[← HS.out] at V
           exact V.chg (ay w4 ⟨r, 2, none⟩ _) λq z e => by
             have e : q = r := e
             subst e
             rcases a5 _ z with h | h
             · exact G h
             · have : wr.drew.heap.size = wr.heap.size := rfl
               omega
         · intro z
           rcases a5 _ z with h | h
           · exact G h
           · have : wr.drew.heap.size = wr.heap.size := rfl
             omega
         · exact eP bv ω (by have : wr.drew.heap.size = wr.heap.size := rfl; omega)
         · have : wr.drew.heap.size = wr.heap.size := rfl
           simp[World.setCell]; omega)
      | (simp[intOf];omega)
    ·obtain rfl:j=k:=ω;have bx:¬((j:Int)<j):=ω;rw[<- y9]at o;go_wp2;go_roundw;·exact⟨i+1,d,ω,γ,D,F,o,G,I,K⟩
     ·exact μ
  ·obtain rfl:i=m:=ω;have bx:¬((i:Int)<i):=ω;have Y:(prog.info? 165).map (·.size)=some 3:=(by kernel_rfl);have b0:(#[N i,N k,d]:Array Value).all (·.oneCell')=true:=(by obtain⟨va,vc,rfl⟩:=o.shape';rw[dQQb];rfl);have b1:Ow (wr.setRow g #[N i,N k,d]) (g+1) eB d (bF k i 0):=o.chg (bh wr g _) λq z=>(by have:=(o.lt q z).1;show ¬q=g;omega);have a6:Below g w (wr.setRow g #[N i,N k,d]):=ag.below I (bh wr g _) ω (λq z=>gpQb z.symm);go_wp2_with (first | (refine dM rfl 165 (.tmp 7) rfl r rfl 165 #[N i,N k,d] (0,0) _ F uAF rfl Y ?_) | (refine bB rfl 165 (.tmp 6) (.tmp 36) rfl g #[N i,N k,d] rfl rfl 165 _ D Y rfl b0 ?_));exact aT (py results171 _ _ g 165 #[N i,N k,d] (0,0) _ rfl (bYQb _ g _ #[N i,N k,d] _ _ D) uAF rfl Y) rfl ⟨_,rfl,b1.rebase ω,by rw[<- O]at a6 ⊢;exact a6⟩
def Fz(k m:Nat)(L:1<=k)(M:k+m<=255)(w:World):Calls prog 112 #[N k,N m] w λe w'=>∃v,e=.returned (.tuple #[nU k m v,.int .i64 0])/\Ow w' w.heap.size eB v (bF k m 0)/\Fr w w':=by
 have ah:∀(I:Fn) (first J:Array Value) (w:World),(Instr.makeFunc I first J).run prog w=.ok (.func I first J) w:=λ_ _ _ _=>rfl;have O:=ad (ro k ω);have Q:=ad (ro m ω);have R:Hid (∀W,W.cell? ⟨w.heap.size,0,none⟩=some (N k)->Calls prog 171 #[N m,N k,.func (.func 172) #[] #[.pointer (some ⟨w.heap.size,0,none⟩)]] W λe w'=>∃v,e=.returned (nU k m v)/\Ow w' W.heap.size eB v (bF k m 0)/\Fr W w'):=λW h=>K4 k m w.heap.size L M W h;have ai:¬(255:Int)<(k:Int)+m:=ω
 have aj:(k:Int)+m<=255:=ω
 go_in;go_wp2_with fail;refine(O.out _).mono ?_;rintro e w1 ⟨rfl,rfl⟩;go_wp2_with fail;refine(Q.out _).mono ?_;rintro e w2 ⟨rfl,rfl⟩;have U:((w.alloc (.cells #[N k] 3)).alloc (.cells #[.int .i64 0,.int .i64 0,.slice none 0 0] 165)).cell? ⟨w.heap.size,0,none⟩=some (N k):=by rw[aG (by rw[gn _ _ _ σ];exact aD _ _ _ rfl)];rfl
 have V:((w.alloc (.cells #[N k] 3)).alloc (.cells #[.int .i64 0,.int .i64 0,.slice none 0 0] 165)).heap[w.heap.size+1]?=some (.cells #[.int .i64 0,.int .i64 0,.slice none 0 0] 165 (0,0)):=aD _ _ _ σ;have X:Fr w ((w.alloc (.cells #[N k] 3)).alloc (.cells #[.int .i64 0,.int .i64 0,.slice none 0 0] 165)):=((Fr.refl w).alloc _).alloc _;have am:((w.alloc (.cells #[N k] 3)).alloc (.cells #[.int .i64 0,.int .i64 0,.slice none 0 0] 165)).heap.size=w.heap.size+2:=σ
 generalize (w.alloc (.cells #[N k] 3)).alloc _=Y at *;go_wp2_with fail;refine(R.out _ U).mono ?_;rintro e p ⟨v3,rfl,D,F⟩;have z:=F.heap V;have K:=X.trans F;have ap:=F.size;obtain⟨d,o,rfl⟩:=D.shape';generalize hg:w.heap.size+1=g at *;have Z:(prog.info? 165).map (·.size)=some 3:=by kernel_rfl
 have aa:(#[N m,N k,.slice d (bF k m 0).length o]:Array Value).all (·.oneCell')=true:=by rw[dQQb];rfl
 have q0:=fk p g 0 _ #[N m,N k,.slice d (bF k m 0).length o] _ _ z;have q1:=fk p g 1 _ #[N m,N k,.slice d (bF k m 0).length o] _ _ z;have q2:=fk p g 2 _ #[N m,N k,.slice d (bF k m 0).length o] _ _ z;have ab:Ow (p.setRow g #[N m,N k,.slice d (bF k m 0).length o]) Y.heap.size eB (.slice d (bF k m 0).length o) (bF k m 0):=D.chg (bh p g _) λq G=>by have:=(D.lt q G).1;show ¬q=g;omega
 have ac:Fr w (p.setRow g #[N m,N k,.slice d (bF k m 0).length o]):=ag.below K (bh p g _) K.size (λq G=>by rw[G];omega);unfold nU;go_wp2_with (refine bB rfl 165 (.tmp 4) (.tmp 24) rfl g _ rfl rfl 165 _ z Z rfl aa ?_);exact aT (v:=.tuple #[.agg #[N m,N k,.slice d (bF k m 0).length o],.int .i64 0]) (by simp[results,results112,go_sem, *]) rfl ⟨_,rfl,ab.rebase ω,ac⟩
def Ae(M:U0)(R:Nat)(mv dv:Value)(I:List Hd)(d:List U0)(L:Nat)(w:World)(hM:ao w eB mv M)(X:cV w aS eB dv I d)
  (hC:1<=d.length) (hC2:d.length<=255) (hR:R<=255) (hMl:M.length=R*d.length) (hl:∀p∈d,p.length=L) (hL:L<=1000000) :
  Calls prog 113 #[.agg #[N R,N d.length,mv],dv] w λe w'=>∃v,e=.returned v/\∃o,Ow w' w.heap.size aS v o/\cg w' w.heap.size eB o (jo M d.length R d L)/\Fr w w':=by
 obtain⟨da,dk,ca,dl,cb,dz⟩:=X.1.shape;obtain⟨F,G,cc,dE,cf,dT⟩:=hM.shape;subst ca cc;unfold maxLen at cb cf;have eb:=X.2.1;have ec:R*d.length<=255*255:=bo hR hC2;have bd:=λi j (hj:j<=d.length)=>oF M d.length i d L j hl hj;have ch:=ad bd;clear bd;have ai:=ad hMl;clear hMl;have be:(w.alloc (.cells #[N R,N d.length,.slice F M.length G] 165)).heap[w.heap.size]?=some (.cells #[N R,N d.length,.slice F M.length G] 165 (0,0)):=aD _ _ _ rfl;have bf:Fr w (w.alloc (.cells #[N R,N d.length,.slice F M.length G] 165)):=(Fr.refl w).alloc _;have ef:¬(R:Int)<0:=ω
 have ci:=mS aS rfl rfl 42 uAE .i64 .i64 R ω (w.alloc (.cells #[N R,N d.length,.slice F M.length G] 165));have bk:=nN (base:=w.heap.size+1) aS rfl rfl R ω (w.alloc (.cells #[N R,N d.length,.slice F M.length G] 165)) σ;have ck:=ad bk;clear bk;have Y:=bf.alloc (.cells (madeCells #[aS.z] R) aS.e);have bl:=((Fr.refl _).alloc (.cells (madeCells #[aS.z] R) aS.e)).heap be;go_in;go_wp2;go_loopw [16] (λiv wr=>∃(i:Nat) (o:List Hd),i<=R/\iv=N i/\Ow wr (w.heap.size+1) aS (.slice (some ⟨w.heap.size+1,0,none⟩) R R) o/\o.length=R/\Hid (∀t (h:t<o.length),t<i->Ow wr (w.heap.size+1) eB o[t].v (eD M d.length t d L d.length))/\wr.heap[w.heap.size]?=some (.cells #[N R,N d.length,.slice F M.length G] 165 (0,0))/\Fr w wr) (λiv _=>R-(intOf iv).toNat);·exact⟨0,_,ax _,rfl,by simpa [gu] using ck.out,σ,λt h ht=>by omega,bl,Y⟩
 ·
  clear bl Y ci be bf;obtain⟨i,o,hi,rfl,Z,J,HP,hB,O⟩:=hrel;by_cases em:i<R
  ·have K:=X.fr O;obtain⟨b0,er,es,cl,e0⟩:=K.1.cell1 (λ(h:Hd)=>h.v) rfl 0 ω;have bm:=K.2.2 0 ω ω;have bq:=hl _ (co (l:=d) (n:=0) ω);obtain⟨a0,c0,az,_⟩:=bm.shape;generalize I[0]'ω=h0 at *;rw[bq]at az;clear bq bm;obtain⟨e4,m,e5⟩:=h0;simp only[Hd.v,dt]at az;obtain⟨rfl,rfl,rfl⟩:=az;simp only[Hd.v]at e0;cases cl;rw[g8]at e0;have bs:=mS eB rfl rfl 22 sJ .i64 .i64 m ω wr;have cn:=nN (base:=w.heap.size+1) eB rfl rfl m ω wr (by have h1:=O.size;have h2:=(aX.1 hB).1;have h3:=(Z.lt _ rfl).2;omega);have Q:=(Fr.refl wr).alloc (.cells (madeCells #[eB.z] m) eB.e);generalize hW:wr.alloc (.cells (madeCells #[eB.z] m) eB.e)=W at *;have HW:=ad hW;clear hW;have e7:(i:Int)<R:=ω;have e8:(0:Int)<I.length:=ω;have cq:(Instr.makeSlice 22 (.int .i64 m) (.int .i64 m)).run prog wr=.ok (.slice (some ⟨wr.heap.size,0,none⟩) m m) W:=bs;clear bs;go_wp2_with fail;have ab:=O.trans Q;have bu:=Q.heap hB;have cr:=Z.fr Q;have cs:Hid (∀t (h:t<o.length),t<i->Ow W (w.heap.size+1) eB o[t].v (eD M d.length t d m d.length)):=λt h ht=>(HP.out t h ht).fr Q;clear Z hB O Q HP K e0 cq HW;go_loopw [7,26] (λsv jv wr=>∃(j:Nat),j<=d.length/\jv=N j/\Ow wr (w.heap.size+1) eB sv (eD M d.length i d m j)/\Fr W wr) (λ_ jv _=>d.length-(intOf jv).toNat);·exact⟨0,ax _,rfl,cn,Fr.refl W⟩
   ·
    obtain⟨j,hj,rfl,U,z⟩:=hrel;have ac:=ad (ch.out i j hj);obtain⟨A,D,bv⟩:=U.shape';rw[ac.out]at bv;subst bv;by_cases a3:j<d.length
    ·have K:=X.fr (ab.trans z);obtain⟨b1,eC,eL,cu,e1⟩:=K.1.cell1 (λ(h:Hd)=>h.v) rfl j ω;have a4:=K.2.2 j ω a3;have a5:=hl _ (co (l:=d) (n:=j) a3);have HN:Hid (eD M d.length i d m (j+1)=gT (eD M d.length i d m j) (M[i*d.length+j]'(by rw[ai.out];have:=cY d.length (show i+1<=R by omega);rw[bP]at this;omega)).toNat d[j]):=(by show _=_;rw[eD,ce M _ _ (by rw[ai.out];have:=cY d.length (show i+1<=R by omega);rw[bP]at this;omega),ce d j _ a3]);have cz:i*d.length+j<M.length:=(by rw[ai.out];have:=cY d.length (show i+1<=R by omega);rw[bP]at this;omega);have c1:=hM.fr (ab.trans z);obtain⟨b2,fb,fc,c3,e2⟩:=c1.cell1 (λc=>Fk.u8 c) rfl (i*d.length+j) cz;have fh:IntKind.i64.wrap ((i:Int)*(d.length:Int))=((i*d.length:Nat):Int):=(by rw[kQQb];exact aA _ (by rw[<- kQQb];omega));obtain⟨aj,cj,a6,_⟩:=a4.shape;generalize I[j]'ω=c4 at *;generalize c5:d[j]=dj at *;clear c5;generalize M[i*d.length+j]=c at *;generalize i*d.length=P,eD M d.length i d m j=b4 at *;rw[a5]at a6;obtain⟨c6,b5,c7⟩:=c4;simp only[Hd.v,dt]at a6;obtain⟨rfl,rfl,rfl⟩:=a6;simp only[Hd.v]at e1 a4;cases cu;cases c3;have V:=z.heap bu;have k0:=af V 1 rfl;have k1:=af V 2 rfl;have i1:(0:Int)<=j:=ω;have i2:(j:Int)<I.length:=ω;have fv:=aA ((P:Int)+j) ω;have i3:(0:Int)<=(P:Int)+j:=ω;have i4:(P:Int)+j<M.length:=ω;have i5:((P:Int)+j).toNat=P+j:=ω;have b6:=ad a5;clear a5;have HA:=ad (λW1 (h1:ao W1 eB (.slice A b5 D) b4) (h2:ao W1 eB (.slice c6 b5 c7) dj)=>F8 _ _ b4 dj c.toNat (iH c) W1 h1 h2 (by rw[ac.out,b6.out]) (by rw[ac.out];exact hL));by_cases cE:c.toNat=0
     ·have fE:(c.toNat:Int)=0:=ω;go_wp2;go_roundw;·exact⟨j+1,ω,γ,by rw[HN.out,cE,EF _ _ (by rw[ac.out,b6.out])];exact U,z⟩
      ·exact μ
     ·have fN:((c.toNat:Int) != 0)=true:=(by rw[no];omega);have fP:¬(c.toNat:Int)=0:=ω;go_wp2_with fail;refine(HA.out _ U.see a4).mono ?_;rintro e w1 ⟨v1,rfl,cF,Y⟩;go_wp2;go_roundw;·exact⟨j+1,ω,γ,by rw[HN.out];exact cF.rebase (by have:=(ab.trans z).size;have:=(aX.1 V).1;omega),z.trans Y⟩
      ·exact μ
    ·obtain rfl:j=d.length:=ω;have i1:(0:Int)<=i:=ω;have cL:¬((d.length:Int)<I.length):=ω;have b7:=ab.trans z;have b9:i<o.length:=ω;have a8:=cr.fr z;have hu:=a8.cellAt (λ(h:Hd)=>h.v) rfl i b9;have cR:=a8.set (λ(h:Hd)=>h.v) rfl i b9 ⟨A,m,D⟩ (.slice A m D) rfl;obtain⟨k0,k1⟩:=hu;generalize bC:o[i].v=pv at *;have gb:=ad bC;clear bC;obtain⟨_,gc,ge,bG,_⟩:=a8.parts;have V:=z.heap bu;have cT:Hid (∀t (h:t<(o.set i ⟨A,m,D⟩).length),t<i+1->Ow (wr.setCell ⟨w.heap.size+1,i,none⟩ (.slice A m D)) (w.heap.size+1) eB (o.set i ⟨A,m,D⟩)[t].v (eD M d.length t d m d.length)):=by
      intro t h ht;have hT:aS.e≠eB.e:=δ;by_cases bR:t=i;·subst bR;rw[List.getElem_set_self];exact U.chg (ay wr _ _) (λq hq e=>U.ne_cells bG hT (by rw[hq,e]))
      ·rw[ve (jj bR)];rw[nz]at h;have ho:=(cs.out t h ω).fr z;exact ho.chg (ay wr _ _) (λq hq e=>ho.ne_cells bG hT (by rw[hq,e]))
     have db:Fr w (wr.setCell ⟨w.heap.size+1,i,none⟩ (.slice A m D)):=eP b7 ω b7.size;have bT:(wr.setCell ⟨w.heap.size+1,i,none⟩ (.slice A m D)).heap[w.heap.size]?=some (.cells #[N R,N d.length,.slice F M.length G] 165 (0,0)):=(by rw[kh _ _ _ _ σ];exact V);have dc:=ad bT;have aC:=ad J;clear bT J;go_wp2;go_roundw;·exact⟨i+1,_,ω,γ,cR,by rw[nz];exact aC.out,cT,dc.out,db⟩
     ·exact μ
  ·obtain rfl:i=R:=ω;have cL:¬((i:Int)<i):=ω;have aC:=ad J;clear J;go_wp2;go_ret;have J:=aC.out;refine⟨.slice (some ⟨w.heap.size+1,0,none⟩) i i,rfl,o,Z.rebase ω,⟨by rw[rr];exact J,λt h1 h2=>?_⟩,O⟩;rw[vK M d.length i d L t ω];exact(HP.out t h1 ω).rebase ω
def ti(w:World)(g:Nat)(d:Array Value)(e:Array Value)(t:TypeId)(h:w.heap[g]?=some (.cells e t (0,0))):(w.setRow g d).heap[g]?=some (.cells d t (0,0)):=by
 simp[World.setRow,Array.getElem?_modify,h]
def js(m:Nat)(d:List U0)(L:Nat):List U0:=jo (bF d.length m 0) d.length m d L
def Fi(m:Nat)(z:Value)(J:List Hd)(d:List U0)(L:Nat)(w:World)(D:cV w aS eB z J d)
  (hC:1<=d.length) (hm:d.length+m<=255) (hl:∀p∈d,p.length=L) (hL:L<=1000000) :
  Calls prog 52 #[N m,z] w λe w'=>∃v,e=.returned (.tuple #[v,.int .i64 0])/\∃K,Ow w' w.heap.size aS v K/\cg w' w.heap.size eB K (js m d L)/\Fr w w':=by
 obtain⟨da,a3,Q,a4,a5,a6⟩:=D.1.shape;have Y:=sp D hl;have Z:=D.2.1;have HM:=ad (vZ d.length m hC hm);have HA:=ad (λW h=>yS z J L W h Y);have HC:=ad (Fz d.length m hC hm);have HT:=ad (λW O (h1:ao W eB O (bF d.length m 0)) (h2:cV W aS eB z J d)=>Ae (bF d.length m 0) m O z J d L W h1 h2 hC ω ω (by rw[qj];omega) hl hL);rw[Z]at Q;have ak:=D.1;unfold js;generalize jo (bF d.length m 0) d.length m d L=a7 at *;subst Q;go_in;go_wp2_with fail;refine(HM.out _).mono ?_;rintro e w1 ⟨rfl,rfl⟩;go_wp2_with fail;refine(HA.out _ ak).mono ?_;rintro e w2 ⟨rfl,rfl⟩;go_wp2_with fail;refine(HC.out _).mono ?_;rintro e o ⟨O,rfl,R,M⟩;have U:(prog.info? 165).map (·.size)=some 3:=by kernel_rfl
 obtain⟨F,G,rfl⟩:=R.shape';have al:(#[N m,N d.length,.slice F (bF d.length m 0).length G]:Array Value).all (·.oneCell')=true:=by rw[dQQb];rfl
 have V:=aD o (.cells #[.int .i64 0,.int .i64 0,.slice none 0 0] 165) _ rfl;have am:=ti _ _ #[N m,N d.length,.slice F (bF d.length m 0).length G] _ _ V;have I:Fr o ((o.alloc (.cells #[.int .i64 0,.int .i64 0,.slice none 0 0] 165)).setRow o.heap.size #[N m,N d.length,.slice F (bF d.length m 0).length G]):=ag.below ((Fr.refl o).alloc _) (bh _ _ _) σ (λq hq=>by rw[hq];exact au _);have av:=R.see.fr I;generalize (bF d.length m 0).length=X at *;go_wp2_with (first | (refine bB rfl 165 (.tmp 6) (.tmp 23) rfl o.heap.size #[N m,N d.length,.slice F X G] rfl rfl 165 _ V U rfl al ?_) | (refine dM rfl 165 (.tmp 6) rfl o.heap.size rfl 165 #[N m,N d.length,.slice F X G] (0,0) _ am uAF rfl U ?_));refine(HT.out _ _ av ((D.fr M).fr I)).mono ?_;rintro e w5 ⟨v5,rfl,K,az,a0,a1⟩;go_wp2_with fail;exact aT (by simp[results,results52,go_sem, *]) rfl ⟨_,rfl,K,az.rebase (by have:=(M.trans I).size;omega),a0.rebase (by have:=(M.trans I).size;omega),(M.trans I).trans a1⟩
def I2(i R C j:Nat)(d:i<R)(e:j<C):i*C+j<R*C:=by
 have:=cY C (show i+1<=R by omega);rw[bP]at this;omega
def EO(M:U0)(R:Nat)(mv dv:Value)(A:List Hd)(d:List U0)(L:Nat)(w:World)(hM:ao w eB mv M)(J:cV w aS eB dv A d)
  (hC:1<=d.length) (hC2:d.length<=255) (hR:R<=255) (hMl:M.length=R*d.length) (hl:∀p∈d,p.length=L) (hL:L<=1000000) :
  Calls prog 210 #[.agg #[N R,N d.length,mv],dv] w λe w'=>∃v,e=.returned v/\∃m,Ow w' w.heap.size aS v m/\cg w' w.heap.size eB m (jo M d.length R d L)/\Fr w w':=by
 obtain⟨da,c6,b4,c7,b5,c8⟩:=J.1.shape;obtain⟨Q,U,b6,c9,b7,cB⟩:=hM.shape;subst b4 b6;unfold maxLen at b5 b7;have cC:A.length<=d.length:=gpQb J.2.1;have cE:d.length<=A.length:=gpQb J.2.1.symm;have cF:R*d.length<=255*255:=bo hR hC2;have a3:Hid (∀i,(eD M d.length i d L d.length).length=L):=λi=>oF M d.length i d L _ hl (au _);have b9:Hid (∀i n (h:n<(eD M d.length i d L d.length).length),(eD M d.length i d L d.length)[n]=UInt8.ofNat (iE M d.length i d n d.length)):=λi n h=>I5 M d.length i d L n d.length hl (au _) (by rw[a3.out]at h;exact h);have bC:=ad hMl;clear hMl;have a4:(w.alloc (.cells #[N R,N d.length,.slice Q M.length U] 165)).heap[w.heap.size]?=some (.cells #[N R,N d.length,.slice Q M.length U] 165 (0,0)):=aD _ _ _ rfl;have a5:Fr w (w.alloc (.cells #[N R,N d.length,.slice Q M.length U] 165)):=(Fr.refl w).alloc _;go_in;go_wp2;go_loopw [5,6] (λov iv wr=>∃(i:Nat) (m:List Hd),i<=R/\iv=N i/\Ow wr (w.heap.size+1) aS ov m/\Hid (m.length=i)/\Hid (∀t (h:t<m.length),Ow wr (w.heap.size+1) eB m[t].v (eD M d.length t d L d.length))/\wr.heap[w.heap.size]?=some (.cells #[N R,N d.length,.slice Q M.length U] 165 (0,0))/\Fr w wr) (λ_ iv _=>R-(intOf iv).toNat);·exact⟨0,[],ax _,rfl,Ow.nil,rfl,λt h=>by simp at h,a4,a5⟩
 ·
  clear a4 a5;obtain⟨i,m,hi,rfl,ab,V,HP,D,G⟩:=hrel;have k0:=af D 0 rfl;by_cases bL:i<R
  ·have cN:(i:Int)<R:=ω;have K:=ad (a3.out i);have bR:=ad (b9.out i);generalize wr=W at *;have bS:w.heap.size+1<=W.heap.size:=(by have:=(aX.1 D).1;omega);go_wp2;go_loopw [7,8] (λsv nv wr=>∃(n:Nat),n<=L/\nv=N n/\Ow wr W.heap.size eB sv ((eD M d.length i d L d.length).take n)/\Fr W wr) (λ_ nv _=>L-(intOf nv).toNat);·exact⟨0,ax _,rfl,by rw[oiQb];exact Ow.nil,Fr.refl W⟩
   ·
    obtain⟨n,hn,rfl,X,o⟩:=hrel;generalize wr=W0 at *;replace D:=o.heap D;clear k0;have k0:=af D 0 rfl;have a9:=J.fr (G.trans o);obtain⟨b0,db,dc,ca,e0⟩:=a9.1.cell1 (λ(h:Hd)=>h.v) rfl 0 ω;have ba:=a9.2.2 0 ω ω;have bb:=hl _ (co (l:=d) (n:=0) ω);obtain⟨a0,c0,ah,_⟩:=ba.shape;generalize A[0]'ω=h0 at *;rw[bb]at ah;clear bb ba;obtain⟨dk,F,dl⟩:=h0;simp only[Hd.v,dt]at ah;obtain⟨rfl,rfl,rfl⟩:=ah;simp only[Hd.v]at e0;cases ca;rw[g8]at e0;have dz:(0:Int)<A.length:=ω;by_cases bc:n<F
    ·have dE:(n:Int)<F:=ω;have HN:Hid ((eD M d.length i d F d.length).take (n+1)=(eD M d.length i d F d.length).take n++[UInt8.ofNat (iE M d.length i d n d.length)]):=(by show _=_;rw[ea (by rw[K.out];exact bc),bR.out n (by rw[K.out];exact bc)]);have cf:Hid (((eD M d.length i d F d.length).take n).length=n):=(by show _=_;rw[aP,K.out];omega);go_wp2;go_loopw [9,10] (λcv jv wr=>∃(j:Nat),j<=d.length/\jv=N j/\cv=B8 (iE M d.length i d n j)/\Fr W0 wr) (λ_ jv _=>d.length-(intOf jv).toNat);·exact⟨0,ax _,rfl,rfl,Fr.refl W0⟩
     ·
      obtain⟨j,hj,rfl,rfl,I⟩:=hrel;have bd:=I.heap D;have k1:=af bd 1 rfl;have be:=Ek M d.length i d n j;by_cases Y:j<d.length
      ·have bf:=J.fr ((G.trans o).trans I);obtain⟨b1,ef,ek,ci,e1⟩:=bf.1.cell1 (λ(h:Hd)=>h.v) rfl j ω;have bk:=bf.2.2 j ω Y;have bl:=hl _ (co (l:=d) (n:=j) Y);have aj:i*d.length+j<M.length:=(by rw[bC.out];exact I2 i R d.length j bL Y);have ck:Hid (iE M d.length i d n (j+1)=iE M d.length i d n j ^^^ aO (M[i*d.length+j]'aj).toNat (d[j][n]'ω).toNat):=ad (by rw[iE,ce M _ _ aj,ce d j _ Y,ce _ n _ ω]);have cl:=hM.fr ((G.trans o).trans I);obtain⟨b2,eq,er,cm,e2⟩:=cl.cell1 (λc=>Fk.u8 c) rfl (i*d.length+j) aj;have ev:IntKind.i64.wrap ((i:Int)*(d.length:Int))=((i*d.length:Nat):Int):=(by rw[kQQb];exact aA _ (by rw[<- kQQb];omega));obtain⟨b3,e5,e6,ak,e3⟩:=bk.cell1 (λc=>Fk.u8 c) rfl n ω;generalize A[j]'ω=cn at *;generalize d[j][n]'ω=y at *;generalize M[i*d.length+j]=c at *;generalize i*d.length=P,iE M d.length i d n j=cp at *;rw[bl]at ak;clear bl bk;obtain⟨e8,e9,eC⟩:=cn;simp only[Hd.v,dt]at ak;obtain⟨rfl,rfl,rfl⟩:=ak;simp only[Hd.v]at e1;cases ci;cases cm;have k2:=af bd 2 rfl;have i1:(0:Int)<=j:=ω;have i2:(j:Int)<A.length:=ω;have fc:(j:Int)<d.length:=ω;have fe:=aA ((P:Int)+j) ω;have i3:(0:Int)<=(P:Int)+j:=ω;have i4:(P:Int)+j<M.length:=ω;have i5:((P:Int)+j).toNat=P+j:=ω;have i6:(0:Int)<=n:=ω;have bm:=iH c;have cq:=iH y;have hx:=ow cp (aO c.toNat y.toNat) be (kp _ _ bm);have cr:Hid (∀W,Calls prog 268 #[B8 c.toNat,B8 y.toNat] W λe w'=>e=.returned (B8 (aO c.toNat y.toNat))/\w'=W):=λW=>(uF c.toNat y.toNat bm cq W).mono λe w' ⟨h1,h2⟩=>⟨h1,h2.symm⟩;generalize aO c.toNat y.toNat=z at *;go_wp2;go_quiet ((go_at_call 268;exact qU (cr.out _)));go_wp2;go_roundw;·exact⟨j+1,ω,γ,by rw[ck.out],I.drewN _⟩
       ·exact μ
      ·obtain rfl:j=d.length:=ω;have fB:¬((d.length:Int)<d.length):=ω;have bs:=X.fr I;have am:=o.trans I;have cs:Hid ((#[B8 (iE M d.length i d n d.length)]:Array Value).toList=eB.cells [UInt8.ofNat (iE M d.length i d n d.length)]):=mo _ be;have ct:((eD M d.length i d F d.length).take n).length+1<=2147483648:=(by rw[cf.out];omega);go_wp2_with (at_builtin;refine bA eB rfl (.tmp 51) (.tmp 53) 22 rfl sJ W.heap.size rfl bs [UInt8.ofNat (iE M d.length i d n d.length)] _ _ _ cs.out rfl rfl ct am.size ?_);intro v' w4 q;go_wp2;go_roundw;·exact⟨n+1,ω,γ,by rw[HN.out];exact q.own,q.below bs am (au _) am.size⟩
       ·exact μ
    ·obtain rfl:n=F:=ω;have cu:¬((n:Int)<n):=ω;rw[dN (by rw[K.out];omega)]at X;obtain⟨ap,av,bt⟩:=X.shape';rw[K.out]at bt;subst bt;have O:=ab.fr o;have Z:=ad V.out;go_wp2_with (at_builtin;refine bA aS rfl (.tmp 55) (.tmp 57) 42 rfl uAE (w.heap.size+1) rfl O [⟨ap,n,av⟩] _ _ _ rfl rfl rfl (by have:=Z.out;simp;omega) (by have:=o.size;omega) ?_);intro v' w4 q;have hT:aS.e≠eB.e:=δ;have cz:=bX X O q hT;have c1:Hid (∀t (h:t<(m++[⟨ap,n,av⟩]:List Hd).length),Ow w4 (w.heap.size+1) eB (m++[⟨ap,n,av⟩]:List Hd)[t].v (eD M d.length t d n d.length)):=by
      intro t h;by_cases ht:t<m.length;·rw[iy ht];exact bX ((HP.out t ht).fr o) O q hT
      ·obtain rfl:t=i:=(by have:=Z.out;simp at h;omega);rw[kM ω];simp only[Z.out,eA,List.getElem_cons_zero];exact cz.rebase bS
     have c3:Fr w w4:=q.below O (G.trans o) ω (G.trans o).size;have c4:=q.chg'.heap D (O.nO ω);go_wp2;go_roundw;·exact⟨i+1,_,ω,γ,q.own,by show _=_;rw[aM,Z.out];rfl,c1,c4,c3⟩
     ·exact μ
  ·obtain rfl:i=R:=ω;have cu:¬((i:Int)<i):=ω;obtain⟨fC,fD,bx⟩:=ab.shape';rw[V.out]at bx;subst bx;go_wp2;go_ret;refine⟨_,rfl,m,ab.rebase ω,⟨by rw[rr];exact V.out,λt h1 h2=>?_⟩,G⟩;rw[vK M d.length i d L t (by have:=V.out;omega)];exact(HP.out t h1).rebase ω
def Pm(m:Nat)(D:Value)(J:List Hd)(d:List U0)(L:Nat)(w:World)(z:cV w aS eB D J d)
  (hC:1<=d.length) (hm:d.length+m<=255) (hl:∀p∈d,p.length=L) (hL:L<=1000000) :
  Calls prog 211 #[N m,D] w λe w'=>∃v,e=.returned (.tuple #[v,.int .i64 0])/\∃K,Ow w' w.heap.size aS v K/\cg w' w.heap.size eB K (js m d L)/\Fr w w':=by
 obtain⟨da,a4,R,a5,a6,a7⟩:=z.1.shape;have U:=sp z hl;have V:=z.2.1;have HM:=ad (zg d.length m hC hm);have HA:=ad (λW h=>Ff D J L W (by rw[z.2.1];exact hC) h U);have HC:=ad (Fc d.length m hC hm);have HT:=ad (λW Q (h1:ao W eB Q (bF d.length m 0)) (h2:cV W aS eB D J d)=>EO (bF d.length m 0) m Q D J d L W h1 h2 hC ω ω (by rw[qj];omega) hl hL);rw[V]at R;have al:=z.1;clear V hl U;unfold js;generalize jo (bF d.length m 0) d.length m d L=a8 at *;subst R;go_in;go_wp2_with fail;refine(HM.out _).mono ?_;rintro e w1 ⟨rfl,rfl⟩;go_wp2_with fail;refine(HA.out _ al).mono ?_;rintro e w2 ⟨rfl,M⟩;go_wp2_with fail;refine(HC.out _).mono ?_;rintro e o ⟨Q,rfl,X,O⟩;unfold nU;have Y:(prog.info? 165).map (·.size)=some 3:=by kernel_rfl
 obtain⟨F,G,rfl⟩:=X.shape';have am:(#[N m,N d.length,.slice F (bF d.length m 0).length G]:Array Value).all (·.oneCell')=true:=by rw[dQQb];rfl
 have Z:=aD o (.cells #[.int .i64 0,.int .i64 0,.slice none 0 0] 165) _ rfl;have ap:=ti _ _ #[N m,N d.length,.slice F (bF d.length m 0).length G] _ _ Z;have I:Fr o ((o.alloc (.cells #[.int .i64 0,.int .i64 0,.slice none 0 0] 165)).setRow o.heap.size #[N m,N d.length,.slice F (bF d.length m 0).length G]):=ag.below ((Fr.refl o).alloc _) (bh _ _ _) σ (λq hq=>by rw[hq];exact au _);have az:=X.see.fr I;generalize (bF d.length m 0).length=cl at *;go_wp2_with (first | (refine bB rfl 165 (.tmp 6) (.tmp 23) rfl o.heap.size #[N m,N d.length,.slice F cl G] rfl rfl 165 _ Z Y rfl am ?_) | (refine dM rfl 165 (.tmp 6) rfl o.heap.size rfl 165 #[N m,N d.length,.slice F cl G] (0,0) _ ap uAF rfl Y ?_));refine(HT.out _ _ az (((z.fr M).fr O).fr I)).mono ?_;rintro e w5 ⟨v5,rfl,K,a0,a1,a2⟩;go_wp2_with fail;exact aT (by simp[results,results211,go_sem, *]) rfl ⟨_,rfl,K,a0.rebase (by have:=((M.trans O).trans I).size;omega),a1.rebase (by have:=((M.trans O).trans I).size;omega),((M.trans O).trans I).trans a2⟩
def ja(n i j:Nat):U0:=aW n ew (i*n+j)
def Lr(n i j:Nat)(d:j<n):ja n i (j+1)=ja n i j++[ew i j]:=BC n ew i j d
def Ls(n i:Nat):ja n (i+1) 0=ja n i n:=BE n ew i
def Lq(n:Nat):ja n 0 0=[]:=by simp[ja,aW]
def Lt(n i j:Nat):(ja n i j).length=i*n+j:=eg _ _ _
theorem Df(n:Nat):ja n n 0=eF n:=rfl
def oU(n:Nat)(v:Value):Value:=.agg #[N n,N n,v]
def Kw(i j:Nat)(w:World):Calls prog 314 #[N i,N j] w λe w'=>e=.returned (Fk.u8 (ew i j))/\w=w':=by
 by_cases h:i=j;·subst h;have d:Hid (Fk.u8 (ew i i)=.int .u8 1):=(by show _=_;unfold ew;rw[an rfl];rfl);rw[d.out];go_in;go_wp2;go_ret;exact⟨rfl,rfl⟩
 ·have d:Hid (Fk.u8 (ew i j)=.int .u8 0):=(by show _=_;unfold ew;rw[ae h];rfl);rw[d.out];have m:¬(i:Int)=j:=ω;go_in;go_wp2;go_ret;exact⟨rfl,rfl⟩
def C1(n:Nat)(hk:1<=n)(bv:n<=255)(w:World):Calls prog 171 #[N n,N n,.func (.func 314) #[] #[]] w λe w'=>∃v,e=.returned (oU n v)/\Ow w' w.heap.size eB v (ja n n 0)/\Fr w w':=by
 have a6:IntKind.i64.wrap ((n:Int)*n)=((n*n:Nat):Int):=by have:n*n<=255*255:=bo ω ω;rw[show(n:Int)*n=((n*n:Nat):Int) by simp];exact dS _ ω
 go_in;have V:n*n<=1000000000:=by have:n*n<=255*255:=bo ω ω;omega
 have X:(n:Int)*n=((n*n:Nat):Int):=σ
 have Y:=ad X;clear X a6;go_upto_region 3 with(at_make;refine rm eB rfl (.const (.int .i64 0)) (.tmp 14) 22 rfl sJ .i64 .i64 _ (n*n) rfl rfl Y.out V (w.heap.size+1) σ ?_);intro o m K;have Z:Fr w o:=ag.below ((Fr.refl w).alloc _) (lK K) σ (λq p=>by cases p);have z:o.heap[w.heap.size]?=some (.cells #[.int .i64 0,.int .i64 0,.slice none 0 0] 165 (0,0)):=(lK K).heap (aD _ _ _ rfl) (by intro q;cases q);have a7:=m.lt (w.heap.size+1) (by simp[Value.ownBlock]);have a8:w.heap.size+2<=o.heap.size:=ω
 have aa:(o.alloc (.cells #[N n,N n,.slice (some ⟨w.heap.size+1,0,none⟩) 0 (n*n)] 165)).heap[w.heap.size]?=some (.cells #[.int .i64 0,.int .i64 0,.slice none 0 0] 165 (0,0)):=by rw[gn _ _ _ ω];exact z
 have ab:(o.alloc (.cells #[N n,N n,.slice (some ⟨w.heap.size+1,0,none⟩) 0 (n*n)] 165)).heap[o.heap.size]?=some (.cells #[N n,N n,.slice (some ⟨w.heap.size+1,0,none⟩) 0 (n*n)] 165 (0,0)):=aD _ _ _ rfl;have ac:o.heap.size<(o.alloc (.cells #[N n,N n,.slice (some ⟨w.heap.size+1,0,none⟩) 0 (n*n)] 165)).heap.size:=σ
 have ah:Fr w (o.alloc (.cells #[N n,N n,.slice (some ⟨w.heap.size+1,0,none⟩) 0 (n*n)] 165)):=Z.alloc _;have ai:=m.fr ((Fr.refl o).alloc (.cells #[N n,N n,.slice (some ⟨w.heap.size+1,0,none⟩) 0 (n*n)] 165));have aj:(Value.slice (some ⟨w.heap.size+1,0,none⟩) 0 (n*n)).ownBlock≠some o.heap.size:=by simp[Value.ownBlock];omega
 go_upto_region 3 with fail;generalize o.alloc (.cells #[N n,N n,.slice (some ⟨w.heap.size+1,0,none⟩) 0 (n*n)] 165)=w0 at *;generalize aC:Value.slice (some ⟨w.heap.size+1,0,none⟩) 0 (n*n)=ba at *;generalize o.heap.size=r at *;have bx:w.heap.size<r:=ω
 clear a8 a7 z Z K m aC V Y;generalize hg:w.heap.size=g at *;have al:Below g w w0:=by rw[<- hg];exact ah
 clear ah;go_loopw [18] (λL wr=>∃(i:Nat) (d:Value),i<=n/\L=N i/\wr.heap[g]?=some (.cells #[.int .i64 0,.int .i64 0,.slice none 0 0] 165 (0,0))/\wr.heap[r]?=some (.cells #[N n,N n,d] 165 (0,0))/\Ow wr (g+1) eB d (ja n i 0)/\d.ownBlock≠some r/\Below g w wr/\r<wr.heap.size) (λL _=>n-(intOf L).toNat);·exact⟨0,ba,ax _,rfl,aa,ab,by rw[Lq];exact ai,aj,al,ac⟩
 ·
  clear aa ab ai aj al ac;obtain⟨i,d,hi,rfl,z,D,m,F,G,J⟩:=hrel;by_cases bb:i<n
  ·have bc:(i:Int)<n:=ω;go_wp2;go_loopw [22] (λM wr=>∃(j:Nat) (d:Value),j<=n/\M=N j/\wr.heap[g]?=some (.cells #[.int .i64 0,.int .i64 0,.slice none 0 0] 165 (0,0))/\wr.heap[r]?=some (.cells #[N n,N n,d] 165 (0,0))/\Ow wr (g+1) eB d (ja n i j)/\d.ownBlock≠some r/\Below g w wr/\r<wr.heap.size) (λM _=>n-(intOf M).toNat);·exact⟨0,d,ax _,rfl,z,D,m,F,G,J⟩
   ·
    clear z D m F G J;obtain⟨j,d,hj,rfl,z,D,m,F,G,J⟩:=hrel;by_cases am:j<n
    ·have b2:(j:Int)<n:=ω;have HS:Hid (ja n i (j+1)=ja n i j++[ew i j]):=Lr n i j am;have bd:=Lt n i j;have be:i*n<=255*255:=bo ω ω;have bf:Hid ((ja n i j).length+1<=2147483648):=(by show _<=_;omega);have HI:Hid (∀W,Calls prog 314 #[N i,N j] W λe w'=>e=.returned (Fk.u8 (ew i j))/\W=w'):=Kw i j;clear bd be;generalize ew i j=c at *;have e2:=af D 2 rfl;have az:Hid (g+1<=wr.drew.heap.size):=(by show _<=_;have:wr.drew.heap.size=wr.heap.size:=rfl;omega);have O:=m.drew;have bl:∀q,d.ownBlock=some q->g+1<=q:=λq p=>(m.lt q p).1;have b3:(j:Int)+1<=255:=ω;clear bb am bc m hk;go_upto_region 8 with fail
     go_region_law (first
       | (refine oD eB rfl (.tmp 26) (.tmp 31) 22 rfl sJ (g + 1) rfl O [c] _ _ _ rfl rfl rfl bf.out az.out ?_
          intro v' w4 I
          have Q := I.own
          obtain ⟨va, vc, a2⟩ := Q.shape'
          rw[← HS.out] at a2
          subst a2
          have k0 := I.chg'.heap (show wr.drew.heap[g]? = _ from z) (λe => by have := bl g e; omega)
          have R := I.chg'.heap (show wr.drew.heap[r]? = _ from D) F
          have bq : Below g w w4 := I.below O (Below.drew G) ω (by have := az.out; omega)
          have b4 := I.size
          have a3 := I.fresh
          have e3 := af R 2 rfl
          have e4 : w4.frozen? ⟨r, 2, none⟩ = false := aB R 2)
       | (go_simp; go_at_call 314; refine (HI.out _).mono ?_; rintro e w3 ⟨rfl, rfl⟩))
     all_goals clear HI e2 O
     all_goals go_wp2_with fail
     all_goals go_roundw
     all_goals first
      | (refine ⟨j + 1, .slice va (ja n i (j + 1)).length vc, by omega, by go_num, ?_, ?_, ?_, ?_, ?_, ?_⟩
         · rw[kh _ _ _ _ (by simp; omega)]; exact k0
         · exact aI R 2 _
         · rw[← HS.out] at Q
           exact Q.chg (ay w4 ⟨r, 2, none⟩ _) λq p e => by
             have e : q = r := e
             subst e
             rcases a3 _ p with h | h
             · exact F h
             · have : wr.drew.heap.size = wr.heap.size := rfl
               omega
         · intro p
           rcases a3 _ p with h | h
           · exact F h
           · have : wr.drew.heap.size = wr.heap.size := rfl
             omega
         · exact eP bq ω (by have : wr.drew.heap.size = wr.heap.size := rfl; omega)
         · have : wr.drew.heap.size = wr.heap.size := rfl
           simp[World.setCell]; omega)
      | (simp[intOf];omega)
    ·obtain rfl:j=n:=ω;have bs:¬((j:Int)<j):=ω;rw[<- Ls]at m;go_wp2;go_roundw;·exact⟨i+1,d,ω,γ,z,D,m,F,G,J⟩
     ·exact μ
  ·obtain rfl:i=n:=ω;have bs:¬((i:Int)<i):=ω;have U:(prog.info? 165).map (·.size)=some 3:=(by kernel_rfl);have bt:(#[N i,N i,d]:Array Value).all (·.oneCell')=true:=(by obtain⟨va,vc,rfl⟩:=m.shape';rw[dQQb];rfl);have bu:Ow (wr.setRow g #[N i,N i,d]) (g+1) eB d (ja i i 0):=m.chg (bh wr g _) λq p=>(by have:=(m.lt q p).1;show ¬q=g;omega);have a4:Below g w (wr.setRow g #[N i,N i,d]):=ag.below G (bh wr g _) ω (λq p=>gpQb p.symm);go_wp2_with (first | (refine dM rfl 165 (.tmp 7) rfl r rfl 165 #[N i,N i,d] (0,0) _ D uAF rfl U ?_) | (refine bB rfl 165 (.tmp 6) (.tmp 36) rfl g #[N i,N i,d] rfl rfl 165 _ z U rfl bt ?_));exact aT (py results171 _ _ g 165 #[N i,N i,d] (0,0) _ rfl (bYQb _ g _ #[N i,N i,d] _ _ z) uAF rfl U) rfl ⟨_,rfl,bu.rebase ω,by rw[<- hg]at a4 ⊢;exact a4⟩
def Q7(n:Nat)(G:1<=n)(I:n<=255)(w:World):Calls prog 285 #[N n] w λe w'=>∃v,e=.returned (.tuple #[oU n v,.int .i64 0])/\Ow w' w.heap.size eB v (eF n)/\Fr w w':=by
 have J:=ad (ro n ω);have K:=ad (λW=>C1 n G I W);go_in;go_wp2_with fail;refine(J.out _).mono ?_;rintro e X ⟨rfl,rfl⟩;have L:(w.alloc (.cells #[.int .i64 0,.int .i64 0,.slice none 0 0] 165)).heap[w.heap.size]?=some (.cells #[.int .i64 0,.int .i64 0,.slice none 0 0] 165 (0,0)):=aD _ _ _ rfl;have M:Fr w (w.alloc (.cells #[.int .i64 0,.int .i64 0,.slice none 0 0] 165)):=(Fr.refl w).alloc _;have Y:(w.alloc (.cells #[.int .i64 0,.int .i64 0,.slice none 0 0] 165)).heap.size=w.heap.size+1:=σ
 generalize w.alloc (.cells #[.int .i64 0,.int .i64 0,.slice none 0 0] 165)=O at *;go_wp2_with fail;refine(K.out _).mono ?_;rintro e m ⟨v3,rfl,o,z⟩;rw[Df]at o;have p:=z.heap L;have F:=M.trans z;have Z:=z.size;obtain⟨d,h,rfl⟩:=o.shape';generalize hg:w.heap.size=g at *;have Q:(prog.info? 165).map (·.size)=some 3:=by kernel_rfl
 have R:(#[N n,N n,.slice d (eF n).length h]:Array Value).all (·.oneCell')=true:=by rw[dQQb];rfl
 have q0:=fk m g 0 _ #[N n,N n,.slice d (eF n).length h] _ _ p;have q1:=fk m g 1 _ #[N n,N n,.slice d (eF n).length h] _ _ p;have q2:=fk m g 2 _ #[N n,N n,.slice d (eF n).length h] _ _ p;have U:Ow (m.setRow g #[N n,N n,.slice d (eF n).length h]) O.heap.size eB (.slice d (eF n).length h) (eF n):=o.chg (bh m g _) λq D=>by have:=(o.lt q D).1;show ¬q=g;omega
 have V:Fr w (m.setRow g #[N n,N n,.slice d (eF n).length h]):=ag.below F (bh m g _) F.size (λq D=>by rw[D];omega);unfold oU;go_wp2_with (refine bB rfl 165 (.tmp 2) (.tmp 10) rfl g #[N n,N n,.slice d (eF n).length h] rfl rfl 165 _ p Q rfl R ?_);exact aT (v:=.tuple #[.agg #[N n,N n,.slice d (eF n).length h],.int .i64 0]) (by simp[results,results285,go_sem, *]) rfl ⟨_,rfl,U.rebase ω,V⟩
