/- Lemmas for ThreeTurned. -/
import Derived.Test.YtndbpldeabnkbaaGreatDoorM16
import Derived.Test.YtndbpldeabnkbaaGreatDoorM12
set_option linter.all false
set_option maxHeartbeats 8000000
set_option maxRecDepth 100000
namespace Go.Fk
abbrev mo:=@Go.cell_setRow_same
abbrev jWQb:=@Nat.succ_mul
abbrev sJQb:=@Int.natCast_mul
end Go.Fk
namespace Go.Proofs.YtndbpldeabnkbaaGreatDoor
open Go.RowKit Go.Fk
def oU(a:Nat):Nat:=if a=0 then 0 else n9 a
def lW(k i j:Nat):UInt8:=UInt8.ofNat (oU ((k+i) ^^^ j))
def tU(k i n:Nat):Z0:=(List.range n).map (lW k i)
def c9(k i j:Nat):Z0:=((List.range i).map λi=>tU k i k).flatten++tU k i j
def I1(k i j:Nat):c9 k i (j+1)=c9 k i j++[lW k i j]:=by
 unfold c9 tU;rw[jr,eD,bG];rfl
def I3(k i:Nat):c9 k (i+1) 0=c9 k i k:=by
 unfold c9;rw[jr,eD,oz];simp[tU]
def I0(k:Nat):c9 k 0 0=[]:=by simp[c9,tU]
def BI(k i j:Nat):(c9 k i j).length=i*k+j:=by
 unfold c9 tU;rw[am,cy,jY,List.length_flatten,jE];have:∀n,((List.range n).map (List.length ∘ λi=>(List.range k).map (lW k i))).sum=n*k:=by
  intro n
  induction n with
  | zero=>simp
  | succ n d=>rw[jr,eD,ot,d];simp[jWQb]
 rw[this]
def tT(k m:Nat)(v:Value):Value:=.agg #[N m,N k,v]
def Gu(a:Nat):∃e:Int,vx a=.tuple #[B8 (oU a),.int .i64 e]:=by
 unfold vx oU;split;·exact⟨13,rfl⟩
 ·exact⟨0,rfl⟩
def Gx(a:Nat)(h:a<256):oU a<256:=by
 unfold oU;split;·omega
 ·exact(Gv a (by assumption) h).1
def uE(n:Nat)(h:n<=255)(w:World):Calls Tryz.prog 127 #[N n] w λe w'=>e=.returned (.bool true)/\w=w':=by
 have d:(0:Int)<=n:=ω
 have m:(n:Int)<=255:=ω
 go_in;go_wp2;go_ret;exact⟨rfl,rfl⟩
def UJ(k i j B:Nat)(z:k+i<=255)(A:j<=255)(w:World)(D:w.cell? ⟨B,0,none⟩=some (N k)):Calls Tryz.prog 129 #[N i,N j,.pointer (some ⟨B,0,none⟩)] w λe w'=>e=.returned (Fk.u8 (lW k i j))/\w=w':=by
 have d:(k+i) ^^^ j<2^8:=jV ω ω;have F:bits .xor .i64 ((k:Int)+i) (j:Int)=(((k+i) ^^^ j:Nat):Int):=by rw[show(k:Int)+i=((k+i:Nat):Int) by omega];exact Kn (k+i) j ω ω
 have h:=ad (J8 ((k+i) ^^^ j) d);obtain⟨G,m⟩:=Gu ((k+i) ^^^ j);rw[m]at h;have o:Hid (B8 (oU ((k+i) ^^^ j))=Fk.u8 (lW k i j)):=sd _ (Gx _ d);clear m;generalize (k+i) ^^^ j=x at *;generalize oU x=y at *;have I:(x:Int)%256=x:=ω
 go_in;go_wp2_with fail;refine(h.out _).mono ?_;rintro e J ⟨rfl,rfl⟩;go_wp2;go_ret;exact⟨dp Ending.returned o.out,rfl⟩
def Qu(k m B:Nat)(hk:1<=k)(bL:k+m<=255)(w:World)(hB:w.cell? ⟨B,0,none⟩=some (N k)):Calls Tryz.prog 128 #[N m,N k,.func (.func 129) #[] #[.pointer (some ⟨B,0,none⟩)]] w λe w'=>∃v,e=.returned (tT k m v)/\Ow w' w.heap.size eB v (c9 k m 0)/\Fr w w':=by
 have bk:IntKind.i64.wrap ((m:Int)*k)=((m*k:Nat):Int):=by have:m*k<=255*255:=bH ω ω;rw[show(m:Int)*k=((m*k:Nat):Int) by simp];exact kf _ ω
 go_in;have ab:m*k<=1000000000:=by have:m*k<=255*255:=bH ω ω;omega
 have ac:(m:Int)*k=((m*k:Nat):Int):=σ
 have aj:=ad ac;clear ac bk;go_upto_region 3 with(at_make;refine sS eB rfl (.const (.int .i64 0)) (.tmp 14) 30 rfl Tryz.underlying30 .i64 .i64 _ (m*k) rfl rfl aj.out ab (w.heap.size+1) σ ?_);intro z o M;have ak:Fr w z:=ai.below ((Fr.refl w).alloc _) (nA M) σ (λq D=>by cases D);have F:z.heap[w.heap.size]?=some (.cells #[.int .i64 0,.int .i64 0,.slice none 0 0] 142 (0,0)):=(nA M).heap (aB _ _ _ rfl) (by intro q;cases q);have bl:=o.lt (w.heap.size+1) (by simp[Value.ownBlock]);have bm:w.heap.size+2<=z.heap.size:=ω
 have ap:(z.alloc (.cells #[N m,N k,.slice (some ⟨w.heap.size+1,0,none⟩) 0 (m*k)] 142)).heap[w.heap.size]?=some (.cells #[.int .i64 0,.int .i64 0,.slice none 0 0] 142 (0,0)):=by rw[jk _ _ _ ω];exact F
 have av:(z.alloc (.cells #[N m,N k,.slice (some ⟨w.heap.size+1,0,none⟩) 0 (m*k)] 142)).heap[z.heap.size]?=some (.cells #[N m,N k,.slice (some ⟨w.heap.size+1,0,none⟩) 0 (m*k)] 142 (0,0)):=aB _ _ _ rfl;have a0:z.heap.size<(z.alloc (.cells #[N m,N k,.slice (some ⟨w.heap.size+1,0,none⟩) 0 (m*k)] 142)).heap.size:=σ
 have a1:Fr w (z.alloc (.cells #[N m,N k,.slice (some ⟨w.heap.size+1,0,none⟩) 0 (m*k)] 142)):=ak.alloc _;have a2:=o.fr ((Fr.refl z).alloc (.cells #[N m,N k,.slice (some ⟨w.heap.size+1,0,none⟩) 0 (m*k)] 142));have a3:(Value.slice (some ⟨w.heap.size+1,0,none⟩) 0 (m*k)).ownBlock≠some z.heap.size:=by simp[Value.ownBlock];omega
 go_upto_region 3 with fail;generalize z.alloc (.cells #[N m,N k,.slice (some ⟨w.heap.size+1,0,none⟩) 0 (m*k)] 142)=w0 at *;generalize bs:Value.slice (some ⟨w.heap.size+1,0,none⟩) 0 (m*k)=bu at *;generalize z.heap.size=r at *;have bR:w.heap.size<r:=ω
 clear bm bl F ak M o bs ab aj;have O:=hB;generalize Q:w.heap.size=g at *;have a4:Below g w w0:=by rw[<- Q];exact a1
 clear a1;go_loopw [18] (λR wr=>∃(i:Nat) (d:Value),i<=m/\R=N i/\wr.heap[g]?=some (.cells #[.int .i64 0,.int .i64 0,.slice none 0 0] 142 (0,0))/\wr.heap[r]?=some (.cells #[N m,N k,d] 142 (0,0))/\Ow wr (g+1) eB d (c9 k i 0)/\d.ownBlock≠some r/\Below g w wr/\r<wr.heap.size) (λR _=>m-(intOf R).toNat);case atStart=>exact⟨0,bu,ar _,rfl,ap,av,by rw[I0];exact a2,a3,a4,a0⟩
 case round=>
  clear ap av a2 a3 a4 a0;obtain⟨i,d,hi,rfl,F,G,o,I,J,L⟩:=hrel;by_cases bv:i<m
  ·have bx:(i:Int)<m:=ω;go_wp2;go_loopw [22] (λU wr=>∃(j:Nat) (d:Value),j<=k/\U=N j/\wr.heap[g]?=some (.cells #[.int .i64 0,.int .i64 0,.slice none 0 0] 142 (0,0))/\wr.heap[r]?=some (.cells #[N m,N k,d] 142 (0,0))/\Ow wr (g+1) eB d (c9 k i j)/\d.ownBlock≠some r/\Below g w wr/\r<wr.heap.size) (λU _=>k-(intOf U).toNat);case atStart=>exact⟨0,d,ar _,rfl,F,G,o,I,J,L⟩
   case round=>
    clear F G o I J L;obtain⟨j,d,hj,rfl,F,G,o,I,J,L⟩:=hrel;by_cases b0:j<k
    ·have cb:(j:Int)<k:=ω;have HS:Hid (c9 k i (j+1)=c9 k i j++[lW k i j]):=I1 k i j;have b1:=BI k i j;have b2:i*k<=255*255:=bH ω ω;have b3:Hid ((c9 k i j).length+1<=2147483648):=(by show _<=_;omega);have HI:Hid (∀W,Fr wr W->Calls Tryz.prog 129 #[N i,N j,.pointer (some ⟨B,0,none⟩)] W λe w'=>e=.returned (Fk.u8 (lW k i j))/\W=w'):=λW hW=>(by refine UJ k i j B ω ω W (hW.cell ?_);exact(Below.cell J (by rw[<- Q];exact World.block_lt_of_cell? w _ O)).trans O);clear b1 b2;generalize lW k i j=c at *;have e2:=ag G 2 rfl;have a7:Hid (g+1<=wr.drew.heap.size):=(by show _<=_;have:wr.drew.heap.size=wr.heap.size:=rfl;omega);have V:=o.drew;have b6:∀q,d.ownBlock=some q->g+1<=q:=λq D=>(o.lt q D).1;have cc:(j:Int)+1<=255:=ω;clear O hB bv b0 bx o hk;go_upto_region 8 with fail
     go_region_law (first
       | (refine uN eB rfl (.tmp 26) (.tmp 31) 30 rfl Tryz.underlying30 (g + 1) rfl V [c] _ _ _ rfl rfl rfl b3.out a7.out ?_
          intro v' w4 K
          have X := K.own
          obtain ⟨va, vc, bb⟩ := X.shape'
          rw[← HS.out] at bb
          subst bb
          have k0 := K.chg'.heap (show wr.drew.heap[g]? = _ from F) (λe => by have := b6 g e; omega)
          have Y := K.chg'.heap (show wr.drew.heap[r]? = _ from G) I
          have b8 : Below g w w4 := K.below V (Below.drew J) ω (by have := a7.out; omega)
          have cf := K.size
          have bc := K.fresh
          have e3 := ag Y 2 rfl
          have e4 : w4.frozen? ⟨r, 2, none⟩ = false := a8 Y 2)
       | (go_simp; go_at_call 129; refine (HI.out _ (Fr.drew (Fr.refl _))).mono ?_; rintro e w3 ⟨rfl, rfl⟩))
     all_goals clear HI e2 V
     all_goals go_wp2_with fail
     all_goals go_roundw
     all_goals first
      | (refine ⟨j + 1, .slice va (c9 k i (j + 1)).length vc, by omega, by go_num, ?_, ?_, ?_, ?_, ?_, ?_⟩
         · rw[oA _ _ _ _ (by simp; omega)]; exact k0
         · exact aJ Y 2 _
         · rw[← HS.out] at X
           exact X.chg (a9 w4 ⟨r, 2, none⟩ _) λq D e => by
             have e : q = r := e
             subst e
             rcases bc _ D with h | h
             · exact I h
             · have : wr.drew.heap.size = wr.heap.size := rfl
               omega
         · intro D
           rcases bc _ D with h | h
           · exact I h
           · have : wr.drew.heap.size = wr.heap.size := rfl
             omega
         · exact ep b8 ω (by have : wr.drew.heap.size = wr.heap.size := rfl; omega)
         · have : wr.drew.heap.size = wr.heap.size := rfl
           simp[World.setCell]; omega)
      | (simp[intOf];omega)
    ·obtain rfl:j=k:=ω;have b9:¬((j:Int)<j):=ω;rw[<- I3]at o;go_wp2;go_roundw;case rel=>exact⟨i+1,d,ω,γ,F,G,o,I,J,L⟩
     case measure=>exact μ
  ·obtain rfl:i=m:=ω;have b9:¬((i:Int)<i):=ω;have Z:(Tryz.prog.info? 142).map (·.size)=some 3:=(by kernel_rfl);have bA:(#[N i,N k,d]:Array Value).all (·.oneCell')=true:=(by obtain⟨va,vc,rfl⟩:=o.shape';rw[iIQb];rfl);have bB:Ow (wr.setRow g #[N i,N k,d]) (g+1) eB d (c9 k i 0):=o.chg (dl wr g _) λq D=>(by have:=(o.lt q D).1;show ¬q=g;omega);have bd:Below g w (wr.setRow g #[N i,N k,d]):=ai.below J (dl wr g _) ω (λq D=>iTQb D.symm);go_wp2_with (first | (refine ml rfl 142 (.tmp 7) rfl r rfl 142 #[N i,N k,d] (0,0) _ G Tryz.underlying142 rfl Z ?_) | (refine fz rfl 142 (.tmp 6) (.tmp 36) rfl g #[N i,N k,d] rfl rfl 142 _ F Z rfl bA ?_));exact bFQb (v:=tT k i d) (vZ Tryz.results128 _ _ g 142 #[N i,N k,d] (0,0) _ rfl (iqQb _ g _ #[N i,N k,d] _ _ F) Tryz.underlying142 rfl Z) rfl ⟨_,rfl,bB.rebase ω,by rw[<- Q]at bd ⊢;exact bd⟩
def JJ(k m:Nat)(M:1<=k)(O:k+m<=255)(w:World):Calls Tryz.prog 83 #[N k,N m] w λe w'=>∃v,e=.returned (.tuple #[tT k m v,.int .i64 0])/\Ow w' w.heap.size eB v (c9 k m 0)/\Fr w w':=by
 have ak:∀(J:Fn) (first K:Array Value) (w:World),(Instr.makeFunc J first K).run Tryz.prog w=.ok (.func J first K) w:=λ_ _ _ _=>rfl;have Q:=ad (uE k ω);have R:=ad (uE m ω);have U:Hid (∀W,W.cell? ⟨w.heap.size,0,none⟩=some (N k)->Calls Tryz.prog 128 #[N m,N k,.func (.func 129) #[] #[.pointer (some ⟨w.heap.size,0,none⟩)]] W λe w'=>∃v,e=.returned (tT k m v)/\Ow w' W.heap.size eB v (c9 k m 0)/\Fr W w'):=λW h=>Qu k m w.heap.size M O W h;have ap:¬(255:Int)<(k:Int)+m:=ω
 have av:(k:Int)+m<=255:=ω
 go_in;go_wp2_with fail;refine(Q.out _).mono ?_;rintro e w1 ⟨rfl,rfl⟩;go_wp2_with fail;refine(R.out _).mono ?_;rintro e w2 ⟨rfl,rfl⟩;have V:((w.alloc (.cells #[N k] 3)).alloc (.cells #[.int .i64 0,.int .i64 0,.slice none 0 0] 142)).cell? ⟨w.heap.size,0,none⟩=some (N k):=by rw[aK (by rw[jk _ _ _ σ];exact aB _ _ _ rfl)];rfl
 have X:((w.alloc (.cells #[N k] 3)).alloc (.cells #[.int .i64 0,.int .i64 0,.slice none 0 0] 142)).heap[w.heap.size+1]?=some (.cells #[.int .i64 0,.int .i64 0,.slice none 0 0] 142 (0,0)):=aB _ _ _ σ;have Y:Fr w ((w.alloc (.cells #[N k] 3)).alloc (.cells #[.int .i64 0,.int .i64 0,.slice none 0 0] 142)):=((Fr.refl w).alloc _).alloc _;have a2:((w.alloc (.cells #[N k] 3)).alloc (.cells #[.int .i64 0,.int .i64 0,.slice none 0 0] 142)).heap.size=w.heap.size+2:=σ
 generalize (w.alloc (.cells #[N k] 3)).alloc (.cells #[.int .i64 0,.int .i64 0,.slice none 0 0] 142)=Z at *;go_wp2_with fail;refine(U.out _ V).mono ?_;rintro e z ⟨v3,rfl,F,G⟩;have D:=G.heap X;have L:=Y.trans G;have a3:=G.size;obtain⟨d,o,rfl⟩:=F.shape';generalize hg:w.heap.size+1=g at *;have aa:(Tryz.prog.info? 142).map (·.size)=some 3:=by kernel_rfl
 have ab:(#[N m,N k,.slice d (c9 k m 0).length o]:Array Value).all (·.oneCell')=true:=by rw[iIQb];rfl
 have q0:=mo z g 0 _ #[N m,N k,.slice d (c9 k m 0).length o] _ _ D;have q1:=mo z g 1 _ #[N m,N k,.slice d (c9 k m 0).length o] _ _ D;have q2:=mo z g 2 _ #[N m,N k,.slice d (c9 k m 0).length o] _ _ D;have ac:Ow (z.setRow g #[N m,N k,.slice d (c9 k m 0).length o]) Z.heap.size eB (.slice d (c9 k m 0).length o) (c9 k m 0):=F.chg (dl z g _) λq I=>by have:=(F.lt q I).1;show ¬q=g;omega
 have aj:Fr w (z.setRow g #[N m,N k,.slice d (c9 k m 0).length o]):=ai.below L (dl z g _) L.size (λq I=>by rw[I];omega);unfold tT;go_wp2_with (refine fz rfl 142 (.tmp 4) (.tmp 24) rfl g #[N m,N k,.slice d (c9 k m 0).length o] rfl rfl 142 _ D aa rfl ab ?_);exact bFQb (v:=.tuple #[.agg #[N m,N k,.slice d (c9 k m 0).length o],.int .i64 0]) (by simp[results,Tryz.results83,go_sem, *]) rfl ⟨_,rfl,ac.rebase ω,aj⟩
def Dk(M:Z0)(R:Nat)(mv dv:Value)(I:List Hd)(d:List Z0)(L:Nat)(w:World)(hM:ah w eB mv M)(X:cO w aO eB dv I d)
  (hC:1<=d.length) (hC2:d.length<=255) (hR:R<=255) (hMl:M.length=R*d.length) (hl:∀p∈d,p.length=L) (hL:L<=1000000) :
  Calls Tryz.prog 84 #[.agg #[N R,N d.length,mv],dv] w λe w'=>∃v,e=.returned v/\∃o,Ow w' w.heap.size aO v o/\cr w' w.heap.size eB o (lI M d.length R d L)/\Fr w w':=by
 obtain⟨da,er,cp,es,cq,ev⟩:=X.1.shape;obtain⟨F,G,cs,e3,ct,e4⟩:=hM.shape;subst cp cs;unfold maxLen at cq ct;have e5:=X.2.1;have e6:R*d.length<=255*255:=bH hR hC2;have bu:=λi j (hj:j<=d.length)=>rF M d.length i d L j hl hj;have cu:=ad bu;clear bu;have ap:=ad hMl;clear hMl;have bv:(w.alloc (.cells #[N R,N d.length,.slice F M.length G] 142)).heap[w.heap.size]?=some (.cells #[N R,N d.length,.slice F M.length G] 142 (0,0)):=aB _ _ _ rfl;have bx:Fr w (w.alloc (.cells #[N R,N d.length,.slice F M.length G] 142)):=(Fr.refl w).alloc _;have e7:¬(R:Int)<0:=ω
 have cv:=oQ aO rfl rfl 75 Tryz.underlying75 .i64 .i64 R ω (w.alloc (.cells #[N R,N d.length,.slice F M.length G] 142));have b3:=pT (base:=w.heap.size+1) aO rfl rfl R ω (w.alloc (.cells #[N R,N d.length,.slice F M.length G] 142)) σ;have c1:=ad b3;clear b3;have Y:=bx.alloc (.cells (madeCells #[aO.z] R) aO.e);have b4:=((Fr.refl _).alloc (.cells (madeCells #[aO.z] R) aO.e)).heap bv;go_in;go_wp2;go_loopw [16] (λiv wr=>∃(i:Nat) (o:List Hd),i<=R/\iv=N i/\Ow wr (w.heap.size+1) aO (.slice (some ⟨w.heap.size+1,0,none⟩) R R) o/\o.length=R/\Hid (∀t (h:t<o.length),t<i->Ow wr (w.heap.size+1) eB o[t].v (iM M d.length t d L d.length))/\wr.heap[w.heap.size]?=some (.cells #[N R,N d.length,.slice F M.length G] 142 (0,0))/\Fr w wr) (λiv _=>R-(intOf iv).toNat);case atStart=>exact⟨0,_,ar _,rfl,by simpa [eW] using c1.out,σ,λt h ht=>by omega,b4,Y⟩
 case round=>
  clear b4 Y cv bv bx;obtain⟨i,o,hi,rfl,Z,J,HP,hB,O⟩:=hrel;by_cases e9:i<R
  ·have K:=X.fr O;obtain⟨b0,fa,fb,c3,e0⟩:=K.1.cell1 (λ(h:Hd)=>h.v) rfl 0 ω;have b5:=K.2.2 0 ω ω;have b6:=hl _ (bJ (l:=d) (n:=0) ω);obtain⟨a0,c0,a5,_⟩:=b5.shape;generalize I[0]'ω=h0 at *;rw[b6]at a5;clear b6 b5;obtain⟨fh,m,fk⟩:=h0;simp only[Hd.v,ir]at a5;obtain⟨rfl,rfl,rfl⟩:=a5;simp only[Hd.v]at e0;cases c3;rw[dq]at e0;have b7:=oQ eB rfl rfl 30 Tryz.underlying30 .i64 .i64 m ω wr;have c5:=pT (base:=w.heap.size+1) eB rfl rfl m ω wr (by have h1:=O.size;have h2:=(aR.1 hB).1;have h3:=(Z.lt _ rfl).2;omega);have Q:=(Fr.refl wr).alloc (.cells (madeCells #[eB.z] m) eB.e);generalize hW:wr.alloc (.cells (madeCells #[eB.z] m) eB.e)=W at *;have HW:=ad hW;clear hW;have fm:(i:Int)<R:=ω;have fn:(0:Int)<I.length:=ω;have c7:(Instr.makeSlice 30 (.int .i64 m) (.int .i64 m)).run Tryz.prog wr=.ok (.slice (some ⟨wr.heap.size,0,none⟩) m m) W:=b7;clear b7;go_wp2_with fail;have ab:=O.trans Q;have b9:=Q.heap hB;have c8:=Z.fr Q;have cA:Hid (∀t (h:t<o.length),t<i->Ow W (w.heap.size+1) eB o[t].v (iM M d.length t d m d.length)):=λt h ht=>(HP.out t h ht).fr Q;clear Z hB O Q HP K e0 c7 HW;go_loopw [7,26] (λsv jv wr=>∃(j:Nat),j<=d.length/\jv=N j/\Ow wr (w.heap.size+1) eB sv (iM M d.length i d m j)/\Fr W wr) (λ_ jv _=>d.length-(intOf jv).toNat);case atStart=>exact⟨0,ar _,rfl,c5,Fr.refl W⟩
   case round=>
    obtain⟨j,hj,rfl,U,z⟩:=hrel;have ac:=ad (cu.out i j hj);obtain⟨A,D,bA⟩:=U.shape';rw[ac.out]at bA;subst bA;by_cases aC:j<d.length
    ·have K:=X.fr (ab.trans z);obtain⟨b1,fs,fv,cE,e1⟩:=K.1.cell1 (λ(h:Hd)=>h.v) rfl j ω;have ba:=K.2.2 j ω aC;have bb:=hl _ (bJ (l:=d) (n:=j) aC);have HN:Hid (iM M d.length i d m (j+1)=jc (iM M d.length i d m j) (M[i*d.length+j]'(by rw[ap.out];have:=bQ d.length (show i+1<=R by omega);rw[be]at this;omega)).toNat d[j]):=(by show _=_;rw[iM,cg M _ _ (by rw[ap.out];have:=bQ d.length (show i+1<=R by omega);rw[be]at this;omega),cg d j _ aC]);have cG:i*d.length+j<M.length:=(by rw[ap.out];have:=bQ d.length (show i+1<=R by omega);rw[be]at this;omega);have cL:=hM.fr (ab.trans z);obtain⟨b2,f1,f2,cN,e2⟩:=cL.cell1 (λc=>Fk.u8 c) rfl (i*d.length+j) cG;have f4:IntKind.i64.wrap ((i:Int)*(d.length:Int))=((i*d.length:Nat):Int):=(by rw[sJQb];exact ax _ (by rw[<- sJQb];omega));obtain⟨aj,cj,bc,_⟩:=ba.shape;generalize I[j]'ω=cR at *;generalize cT:d[j]=dj at *;clear cT;generalize M[i*d.length+j]=c at *;generalize i*d.length=P,iM M d.length i d m j=bR at *;rw[bb]at bc;obtain⟨dc,bT,di⟩:=cR;simp only[Hd.v,ir]at bc;obtain⟨rfl,rfl,rfl⟩:=bc;simp only[Hd.v]at e1 ba;cases cE;cases cN;have V:=z.heap b9;have k0:=ag V 1 rfl;have k1:=ag V 2 rfl;have i1:(0:Int)<=j:=ω;have i2:(j:Int)<I.length:=ω;have f9:=ax ((P:Int)+j) ω;have i3:(0:Int)<=(P:Int)+j:=ω;have i4:(P:Int)+j<M.length:=ω;have i5:((P:Int)+j).toNat=P+j:=ω;have ca:=ad bb;clear bb;have HA:=ad (λW1 (h1:ah W1 eB (.slice A bT D) bR) (h2:ah W1 eB (.slice dc bT di) dj)=>JS _ _ bR dj c.toNat (nH c) W1 h1 h2 (by rw[ac.out,ca.out]) (by rw[ac.out];exact hL));by_cases d4:c.toNat=0
     ·have fN:(c.toNat:Int)=0:=ω;go_wp2;go_roundw;case rel=>exact⟨j+1,ω,γ,by rw[HN.out,d4,Jf _ _ (by rw[ac.out,ca.out])];exact U,z⟩
      case measure=>exact μ
     ·have fP:((c.toNat:Int) != 0)=true:=(by rw[bne_iff_ne];omega);have fQ:¬(c.toNat:Int)=0:=ω;go_wp2_with fail;refine(HA.out _ U.see ba).mono ?_;rintro e w1 ⟨v1,rfl,d5,Y⟩;go_wp2;go_roundw;case rel=>exact⟨j+1,ω,γ,by rw[HN.out];exact d5.rebase (by have:=(ab.trans z).size;have:=(aR.1 V).1;omega),z.trans Y⟩
      case measure=>exact μ
    ·obtain rfl:j=d.length:=ω;have i1:(0:Int)<=i:=ω;have d6:¬((d.length:Int)<I.length):=ω;have cb:=ab.trans z;have cc:i<o.length:=ω;have bf:=c8.fr z;have hu:=bf.cellAt (λ(h:Hd)=>h.v) rfl i cc;have dT:=bf.set (λ(h:Hd)=>h.v) rfl i cc ⟨A,m,D⟩ (.slice A m D) rfl;obtain⟨k0,k1⟩:=hu;generalize cf:o[i].v=pv at *;have gc:=ad cf;clear cf;obtain⟨_,ge,gg,ch,_⟩:=bf.parts;have V:=z.heap b9;have ec:Hid (∀t (h:t<(o.set i ⟨A,m,D⟩).length),t<i+1->Ow (wr.setCell ⟨w.heap.size+1,i,none⟩ (.slice A m D)) (w.heap.size+1) eB (o.set i ⟨A,m,D⟩)[t].v (iM M d.length t d m d.length)):=by
      intro t h ht;have hT:aO.e≠eB.e:=δ;by_cases cl:t=i;·subst cl;rw[List.getElem_set_self];exact U.chg (a9 wr _ _) (λq hq e=>U.ne_cells ch hT (by rw[hq,e]))
      ·rw[List.getElem_set_ne (iG cl)];rw[mW]at h;have ho:=(cA.out t h ω).fr z;exact ho.chg (a9 wr _ _) (λq hq e=>ho.ne_cells ch hT (by rw[hq,e]))
     have ef:Fr w (wr.setCell ⟨w.heap.size+1,i,none⟩ (.slice A m D)):=ep cb ω cb.size;have cn:(wr.setCell ⟨w.heap.size+1,i,none⟩ (.slice A m D)).heap[w.heap.size]?=some (.cells #[N R,N d.length,.slice F M.length G] 142 (0,0)):=(by rw[oA _ _ _ _ σ];exact V);have el:=ad cn;have bl:=ad J;clear cn J;go_wp2;go_roundw;case rel=>exact⟨i+1,_,ω,γ,dT,by rw[mW];exact bl.out,ec,el.out,ef⟩
     case measure=>exact μ
  ·obtain rfl:i=R:=ω;have d6:¬((i:Int)<i):=ω;have bl:=ad J;clear J;go_wp2;go_ret;have J:=bl.out;refine⟨.slice (some ⟨w.heap.size+1,0,none⟩) i i,rfl,o,Z.rebase ω,⟨by rw[uJ];exact J,λt h1 h2=>?_⟩,O⟩;rw[zO M d.length i d L t ω];exact(HP.out t h1 ω).rebase ω
def Ab(w:World)(g:Nat)(d:Array Value)(e:Array Value)(t:TypeId)(h:w.heap[g]?=some (.cells e t (0,0))):(w.setRow g d).heap[g]?=some (.cells d t (0,0)):=by
 simp[World.setRow,Array.getElem?_modify,h]
def mD(m:Nat)(d:List Z0)(L:Nat):List Z0:=lI (c9 d.length m 0) d.length m d L
def J2(m:Nat)(z:Value)(J:List Hd)(d:List Z0)(L:Nat)(w:World)(D:cO w aO eB z J d)
  (hC:1<=d.length) (hm:d.length+m<=255) (hl:∀p∈d,p.length=L) (hL:L<=1000000) :
  Calls Tryz.prog 48 #[N m,z] w λe w'=>∃v,e=.returned (.tuple #[v,.int .i64 0])/\∃K,Ow w' w.heap.size aO v K/\cr w' w.heap.size eB K (mD m d L)/\Fr w w':=by
 obtain⟨da,ba,Q,bb,bc,bd⟩:=D.1.shape;have Y:=BY D hl;have Z:=D.2.1;have HM:=ad (Al d.length m hC hm);have HA:=ad (λW h=>BZ z J L W h Y);have HC:=ad (JJ d.length m hC hm);have HT:=ad (λW O (h1:ah W eB O (c9 d.length m 0)) (h2:cO W aO eB z J d)=>Dk (c9 d.length m 0) m O z J d L W h1 h2 hC ω ω (by rw[BI];omega) hl hL);rw[Z]at Q;have av:=D.1;unfold mD;generalize lI (c9 d.length m 0) d.length m d L=bf at *;subst Q;go_in;go_wp2_with fail;refine(HM.out _).mono ?_;rintro e w1 ⟨rfl,rfl⟩;go_wp2_with fail;refine(HA.out _ av).mono ?_;rintro e w2 ⟨rfl,rfl⟩;go_wp2_with fail;refine(HC.out _).mono ?_;rintro e o ⟨O,rfl,R,M⟩;have U:(Tryz.prog.info? 142).map (·.size)=some 3:=by kernel_rfl
 obtain⟨F,G,rfl⟩:=R.shape';have a0:(#[N m,N d.length,.slice F (c9 d.length m 0).length G]:Array Value).all (·.oneCell')=true:=by rw[iIQb];rfl
 have V:=aB o (.cells #[.int .i64 0,.int .i64 0,.slice none 0 0] 142) _ rfl;have a1:=Ab _ _ #[N m,N d.length,.slice F (c9 d.length m 0).length G] _ _ V;have I:Fr o ((o.alloc (.cells #[.int .i64 0,.int .i64 0,.slice none 0 0] 142)).setRow o.heap.size #[N m,N d.length,.slice F (c9 d.length m 0).length G]):=ai.below ((Fr.refl o).alloc _) (dl _ _ _) σ (λq hq=>by rw[hq];exact al _);have a3:=R.see.fr I;generalize (c9 d.length m 0).length=X at *;go_wp2_with (first | (refine fz rfl 142 (.tmp 6) (.tmp 23) rfl o.heap.size #[N m,N d.length,.slice F X G] rfl rfl 142 _ V U rfl a0 ?_) | (refine ml rfl 142 (.tmp 6) rfl o.heap.size rfl 142 #[N m,N d.length,.slice F X G] (0,0) _ a1 Tryz.underlying142 rfl U ?_));refine(HT.out _ _ a3 ((D.fr M).fr I)).mono ?_;rintro e w5 ⟨v5,rfl,K,a5,a6,a7⟩;go_wp2_with fail;exact bFQb (v:=.tuple #[v5,.int .i64 0]) (by simp[results,Tryz.results48,go_sem, *]) rfl ⟨_,rfl,K,a5.rebase (by have:=(M.trans I).size;omega),a6.rebase (by have:=(M.trans I).size;omega),(M.trans I).trans a7⟩
def kP(n i j:Nat):Z0:=bo n jP (i*n+j)
def RX(n i j:Nat)(d:j<n):kP n i (j+1)=kP n i j++[jP i j]:=EQ n jP i j d
def RY(n i:Nat):kP n (i+1) 0=kP n i n:=ES n jP i
def RV(n:Nat):kP n 0 0=[]:=by simp[kP,bo]
def RZ(n i j:Nat):(kP n i j).length=i*n+j:=gk _ _ _
theorem G6(n:Nat):kP n n 0=gK n:=rfl
def tI(n:Nat)(v:Value):Value:=.agg #[N n,N n,v]
def Qr(i j:Nat)(w:World):Calls Tryz.prog 251 #[N i,N j] w λe w'=>e=.returned (Fk.u8 (jP i j))/\w=w':=by
 by_cases h:i=j;·subst h;have d:Hid (Fk.u8 (jP i i)=.int .u8 1):=(by show _=_;unfold jP;rw[af rfl];rfl);rw[d.out];go_in;go_wp2;go_ret;exact⟨rfl,rfl⟩
 ·have d:Hid (Fk.u8 (jP i j)=.int .u8 0):=(by show _=_;unfold jP;rw[ae h];rfl);rw[d.out];have m:¬(i:Int)=j:=ω;go_in;go_wp2;go_ret;exact⟨rfl,rfl⟩
def FK(n:Nat)(hk:1<=n)(b8:n<=255)(w:World):Calls Tryz.prog 128 #[N n,N n,.func (.func 251) #[] #[]] w λe w'=>∃v,e=.returned (tI n v)/\Ow w' w.heap.size eB v (kP n n 0)/\Fr w w':=by
 have bd:IntKind.i64.wrap ((n:Int)*n)=((n*n:Nat):Int):=by have:n*n<=255*255:=bH ω ω;rw[show(n:Int)*n=((n*n:Nat):Int) by simp];exact kf _ ω
 go_in;have X:n*n<=1000000000:=by have:n*n<=255*255:=bH ω ω;omega
 have Y:(n:Int)*n=((n*n:Nat):Int):=σ
 have Z:=ad Y;clear Y bd;go_upto_region 3 with(at_make;refine sS eB rfl (.const (.int .i64 0)) (.tmp 14) 30 rfl Tryz.underlying30 .i64 .i64 _ (n*n) rfl rfl Z.out X (w.heap.size+1) σ ?_);intro o m L;have aa:Fr w o:=ai.below ((Fr.refl w).alloc _) (nA L) σ (λq z=>by cases z);have D:o.heap[w.heap.size]?=some (.cells #[.int .i64 0,.int .i64 0,.slice none 0 0] 142 (0,0)):=(nA L).heap (aB _ _ _ rfl) (by intro q;cases q);have bf:=m.lt (w.heap.size+1) (by simp[Value.ownBlock]);have bk:w.heap.size+2<=o.heap.size:=ω
 have ab:(o.alloc (.cells #[N n,N n,.slice (some ⟨w.heap.size+1,0,none⟩) 0 (n*n)] 142)).heap[w.heap.size]?=some (.cells #[.int .i64 0,.int .i64 0,.slice none 0 0] 142 (0,0)):=by rw[jk _ _ _ ω];exact D
 have ac:(o.alloc (.cells #[N n,N n,.slice (some ⟨w.heap.size+1,0,none⟩) 0 (n*n)] 142)).heap[o.heap.size]?=some (.cells #[N n,N n,.slice (some ⟨w.heap.size+1,0,none⟩) 0 (n*n)] 142 (0,0)):=aB _ _ _ rfl;have aj:o.heap.size<(o.alloc (.cells #[N n,N n,.slice (some ⟨w.heap.size+1,0,none⟩) 0 (n*n)] 142)).heap.size:=σ
 have ak:Fr w (o.alloc (.cells #[N n,N n,.slice (some ⟨w.heap.size+1,0,none⟩) 0 (n*n)] 142)):=aa.alloc _;have ap:=m.fr ((Fr.refl o).alloc (.cells #[N n,N n,.slice (some ⟨w.heap.size+1,0,none⟩) 0 (n*n)] 142));have av:(Value.slice (some ⟨w.heap.size+1,0,none⟩) 0 (n*n)).ownBlock≠some o.heap.size:=by simp[Value.ownBlock];omega
 go_upto_region 3 with fail;generalize o.alloc (.cells #[N n,N n,.slice (some ⟨w.heap.size+1,0,none⟩) 0 (n*n)] 142)=w0 at *;generalize bm:Value.slice (some ⟨w.heap.size+1,0,none⟩) 0 (n*n)=bn at *;generalize o.heap.size=r at *;have b9:w.heap.size<r:=ω
 clear bk bf D aa L m bm X Z;generalize hg:w.heap.size=g at *;have a1:Below g w w0:=by rw[<- hg];exact ak
 clear ak;go_loopw [18] (λM wr=>∃(i:Nat) (d:Value),i<=n/\M=N i/\wr.heap[g]?=some (.cells #[.int .i64 0,.int .i64 0,.slice none 0 0] 142 (0,0))/\wr.heap[r]?=some (.cells #[N n,N n,d] 142 (0,0))/\Ow wr (g+1) eB d (kP n i 0)/\d.ownBlock≠some r/\Below g w wr/\r<wr.heap.size) (λM _=>n-(intOf M).toNat);case atStart=>exact⟨0,bn,ar _,rfl,ab,ac,by rw[RV];exact ap,av,a1,aj⟩
 case round=>
  clear ab ac ap av a1 aj;obtain⟨i,d,hi,rfl,D,F,m,G,I,K⟩:=hrel;by_cases bs:i<n
  ·have bu:(i:Int)<n:=ω;go_wp2;go_loopw [22] (λO wr=>∃(j:Nat) (d:Value),j<=n/\O=N j/\wr.heap[g]?=some (.cells #[.int .i64 0,.int .i64 0,.slice none 0 0] 142 (0,0))/\wr.heap[r]?=some (.cells #[N n,N n,d] 142 (0,0))/\Ow wr (g+1) eB d (kP n i j)/\d.ownBlock≠some r/\Below g w wr/\r<wr.heap.size) (λO _=>n-(intOf O).toNat);case atStart=>exact⟨0,d,ar _,rfl,D,F,m,G,I,K⟩
   case round=>
    clear D F m G I K;obtain⟨j,d,hj,rfl,D,F,m,G,I,K⟩:=hrel;by_cases a2:j<n
    ·have bL:(j:Int)<n:=ω;have HS:Hid (kP n i (j+1)=kP n i j++[jP i j]):=RX n i j a2;have bv:=RZ n i j;have bx:i*n<=255*255:=bH ω ω;have b0:Hid ((kP n i j).length+1<=2147483648):=(by show _<=_;omega);have HI:Hid (∀W,Calls Tryz.prog 251 #[N i,N j] W λe w'=>e=.returned (Fk.u8 (jP i j))/\W=w'):=Qr i j;clear bv bx;generalize jP i j=c at *;have e2:=ag F 2 rfl;have a5:Hid (g+1<=wr.drew.heap.size):=(by show _<=_;have:wr.drew.heap.size=wr.heap.size:=rfl;omega);have Q:=m.drew;have b2:∀q,d.ownBlock=some q->g+1<=q:=λq z=>(m.lt q z).1;have bR:(j:Int)+1<=255:=ω;clear bs a2 bu m hk;go_upto_region 8 with fail
     go_region_law (first
       | (refine uN eB rfl (.tmp 26) (.tmp 31) 30 rfl Tryz.underlying30 (g + 1) rfl Q [c] _ _ _ rfl rfl rfl b0.out a5.out ?_
          intro v' w4 J
          have R := J.own
          obtain ⟨va, vc, aC⟩ := R.shape'
          rw[← HS.out] at aC
          subst aC
          have k0 := J.chg'.heap (show wr.drew.heap[g]? = _ from D) (λe => by have := b2 g e; omega)
          have U := J.chg'.heap (show wr.drew.heap[r]? = _ from F) G
          have b4 : Below g w w4 := J.below Q (Below.drew I) ω (by have := a5.out; omega)
          have bT := J.size
          have ba := J.fresh
          have e3 := ag U 2 rfl
          have e4 : w4.frozen? ⟨r, 2, none⟩ = false := a8 U 2)
       | (go_simp; go_at_call 251; refine (HI.out _).mono ?_; rintro e w3 ⟨rfl, rfl⟩))
     all_goals clear HI e2 Q
     all_goals go_wp2_with fail
     all_goals go_roundw
     all_goals first
      | (refine ⟨j + 1, .slice va (kP n i (j + 1)).length vc, by omega, by go_num, ?_, ?_, ?_, ?_, ?_, ?_⟩
         · rw[oA _ _ _ _ (by simp; omega)]; exact k0
         · exact aJ U 2 _
         · rw[← HS.out] at R
           exact R.chg (a9 w4 ⟨r, 2, none⟩ _) λq z e => by
             have e : q = r := e
             subst e
             rcases ba _ z with h | h
             · exact G h
             · have : wr.drew.heap.size = wr.heap.size := rfl
               omega
         · intro z
           rcases ba _ z with h | h
           · exact G h
           · have : wr.drew.heap.size = wr.heap.size := rfl
             omega
         · exact ep b4 ω (by have : wr.drew.heap.size = wr.heap.size := rfl; omega)
         · have : wr.drew.heap.size = wr.heap.size := rfl
           simp[World.setCell]; omega)
      | (simp[intOf];omega)
    ·obtain rfl:j=n:=ω;have b5:¬((j:Int)<j):=ω;rw[<- RY]at m;go_wp2;go_roundw;case rel=>exact⟨i+1,d,ω,γ,D,F,m,G,I,K⟩
     case measure=>exact μ
  ·obtain rfl:i=n:=ω;have b5:¬((i:Int)<i):=ω;have V:(Tryz.prog.info? 142).map (·.size)=some 3:=(by kernel_rfl);have b6:(#[N i,N i,d]:Array Value).all (·.oneCell')=true:=(by obtain⟨va,vc,rfl⟩:=m.shape';rw[iIQb];rfl);have b7:Ow (wr.setRow g #[N i,N i,d]) (g+1) eB d (kP i i 0):=m.chg (dl wr g _) λq z=>(by have:=(m.lt q z).1;show ¬q=g;omega);have bb:Below g w (wr.setRow g #[N i,N i,d]):=ai.below I (dl wr g _) ω (λq z=>iTQb z.symm);go_wp2_with (first | (refine ml rfl 142 (.tmp 7) rfl r rfl 142 #[N i,N i,d] (0,0) _ F Tryz.underlying142 rfl V ?_) | (refine fz rfl 142 (.tmp 6) (.tmp 36) rfl g #[N i,N i,d] rfl rfl 142 _ D V rfl b6 ?_));exact bFQb (v:=tI i d) (vZ Tryz.results128 _ _ g 142 #[N i,N i,d] (0,0) _ rfl (iqQb _ g _ #[N i,N i,d] _ _ D) Tryz.underlying142 rfl V) rfl ⟨_,rfl,b7.rebase ω,by rw[<- hg]at bb ⊢;exact bb⟩
def Xy(n:Nat)(I:1<=n)(J:n<=255)(w:World):Calls Tryz.prog 223 #[N n] w λe w'=>∃v,e=.returned (.tuple #[tI n v,.int .i64 0])/\Ow w' w.heap.size eB v (gK n)/\Fr w w':=by
 have K:=ad (uE n ω);have L:=ad (λW=>FK n I J W);go_in;go_wp2_with fail;refine(K.out _).mono ?_;rintro e Y ⟨rfl,rfl⟩;have M:(w.alloc (.cells #[.int .i64 0,.int .i64 0,.slice none 0 0] 142)).heap[w.heap.size]?=some (.cells #[.int .i64 0,.int .i64 0,.slice none 0 0] 142 (0,0)):=aB _ _ _ rfl;have O:Fr w (w.alloc (.cells #[.int .i64 0,.int .i64 0,.slice none 0 0] 142)):=(Fr.refl w).alloc _;have Z:(w.alloc (.cells #[.int .i64 0,.int .i64 0,.slice none 0 0] 142)).heap.size=w.heap.size+1:=σ
 generalize w.alloc (.cells #[.int .i64 0,.int .i64 0,.slice none 0 0] 142)=Q at *;go_wp2_with fail;refine(L.out _).mono ?_;rintro e m ⟨v3,rfl,o,D⟩;rw[G6]at o;have z:=D.heap M;have G:=O.trans D;have aa:=D.size;obtain⟨d,h,rfl⟩:=o.shape';generalize hg:w.heap.size=g at *;have R:(Tryz.prog.info? 142).map (·.size)=some 3:=by kernel_rfl
 have U:(#[N n,N n,.slice d (gK n).length h]:Array Value).all (·.oneCell')=true:=by rw[iIQb];rfl
 have q0:=mo m g 0 _ #[N n,N n,.slice d (gK n).length h] _ _ z;have q1:=mo m g 1 _ #[N n,N n,.slice d (gK n).length h] _ _ z;have q2:=mo m g 2 _ #[N n,N n,.slice d (gK n).length h] _ _ z;have V:Ow (m.setRow g #[N n,N n,.slice d (gK n).length h]) Q.heap.size eB (.slice d (gK n).length h) (gK n):=o.chg (dl m g _) λq F=>by have:=(o.lt q F).1;show ¬q=g;omega
 have X:Fr w (m.setRow g #[N n,N n,.slice d (gK n).length h]):=ai.below G (dl m g _) G.size (λq F=>by rw[F];omega);unfold tI;go_wp2_with (refine fz rfl 142 (.tmp 2) (.tmp 10) rfl g #[N n,N n,.slice d (gK n).length h] rfl rfl 142 _ z R rfl U ?_);exact bFQb (v:=.tuple #[.agg #[N n,N n,.slice d (gK n).length h],.int .i64 0]) (by simp[results,Tryz.results223,go_sem, *]) rfl ⟨_,rfl,V.rebase ω,X⟩
