/- Parts of the proof of ArchEnds: M1 M2 M3 R2 R3 M4. -/
import Derived.Test.YtfpijnhhdfoohaaGreatDoorM14
import Derived.Test.YtfpijnhhdfoohaaGreatDoorM10
import Derived.Test.YtfpijnhhdfoohaaGreatDoorM09
import Derived.Test.YtfpijnhhdfoohaaGreatDoorM00
set_option linter.unusedVariables false
set_option linter.unusedSectionVars false
set_option linter.unusedSimpArgs false
set_option maxHeartbeats 8000000
set_option maxRecDepth 100000
namespace Go.Fk
abbrev kE:=@Go.cell_setRow_same
abbrev iG:=@Nat.succ_mul
abbrev qpQb:=@Int.natCast_mul
end Go.Fk
namespace Go.Proofs.YtfpijnhhdfoohaaGreatDoor
open Go.RowKit Go.Fk
def mV(a:Nat):Nat:=if a=0 then 0 else lJ a
def kw(k i j:Nat):UInt8:=UInt8.ofNat (mV ((k+i) ^^^ j))
def rf(k i n:Nat):List UInt8:=(List.range n).map (kw k i)
def bQ(k i j:Nat):List UInt8:=((List.range i).map fun i=>rf k i k).flatten++rf k i j
theorem DM(k i j:Nat):bQ k i (j+1)=bQ k i j++[kw k i j]:=by
 unfold bQ rf;rw [lf,gp,mG];rfl
theorem DO(k i:Nat):bQ k (i+1) 0=bQ k i k:=by
 unfold bQ;rw [lf,gp,rA];simp [rf]
theorem DL(k:Nat):bQ k 0 0=[]:=by simp [bQ,rf]
theorem yC(k i j:Nat):(bQ k i j).length=i*k+j:=by
 unfold bQ rf;rw [aD,eN,mD,List.length_flatten,nZ];have:∀ n,((List.range n).map (List.length ∘ fun i=>(List.range k).map (kw k i))).sum=n*k:=by
  intro n
  induction n with
  | zero=>simp
  | succ n d=>rw [lf,gp,qf,d];simp [iG]
 rw [this]
def pS(k m:Nat)(v:Value):Value:=.agg #[N m,N k,v]
theorem CD(a:Nat):∃ e:Int,si a=.tuple #[B8 (mV a),.int .i64 e]:=by
 unfold si mV;split;· exact⟨13,rfl⟩
 · exact⟨0,rfl⟩
theorem CG(a:Nat)(h:a<256):mV a<256:=by
 unfold mV;split;· omega
 · exact(CE a (by assumption) h).1
theorem rH(n:Nat)(h:n<=255)(w:World):Calls Tryz.prog 158 #[N n] w fun e d=>e=.returned (.bool true)/\w=d:=by
 have m:(0:Int)<=n:=by omega
 have o:(n:Int)<=255:=by omega
 go_enter Tryz.func158, Tryz.ntmps158;go_wp2_with fail;go_ret;exact⟨rfl,rfl⟩
theorem P6 (k i j B : Nat) (z : k + i ≤ 255) (A : j ≤ 255) (w : World) (D : w.cell? ⟨B, 0, none⟩ = some (N k)) :
    Calls Tryz.prog 160 #[N i,N j,.pointer (some ⟨B,0,none⟩)] w fun e o=>e=.returned (Fk.u8 (kw k i j))/\w=o:=by
  have d:(k+i) ^^^ j<2 ^ 8:=jz (by omega) (by omega);have F:bits .xor .i64 ((k:Int)+i) (j:Int)=(((k+i) ^^^ j:Nat):Int):=(by rw [show(k:Int)+i=((k+i:Nat):Int) by omega];exact Fw (k+i) j (by omega) (by omega));have h:=ad (EG ((k+i) ^^^ j) d);obtain⟨G,m⟩:=CD ((k+i) ^^^ j);rw [m]at h;have q:Hid (B8 (mV ((k+i) ^^^ j))=Fk.u8 (kw k i j)):=pT _ (CG _ d);clear m;generalize (k+i) ^^^ j=x at *;generalize mV x=y at *;have I:(x:Int) % 256=x:=(by omega);go_enter Tryz.func160, Tryz.ntmps160;go_wp2_with fail;refine(h.out _).mono ?_;rintro e J ⟨rfl,rfl⟩;go_wp2_with fail;go_ret;exact⟨gS Ending.returned q.out,rfl⟩
theorem LK(k m B:Nat)(hk:1<=k)(bT:k+m<=255)(w:World)(hB:w.cell? ⟨B,0,none⟩=some (N k)) :
  Calls Tryz.prog 159 #[N m,N k,.func (.func 160) #[] #[.pointer (some ⟨B,0,none⟩)]] w fun e L=>∃ v,e=.returned (pS k m v)/\Ow L w.heap.size eB v (bQ k m 0)/\Fr w L:=by
 have bl:IntKind.i64.wrap ((m:Int)*k)=((m*k:Nat):Int):=by have:m*k<=255*255:=bJ (by omega) (by omega);rw [show(m:Int)*k=((m*k:Nat):Int) by simp];exact iJ _ (by omega)
 go_enter Tryz.func159, Tryz.ntmps159;have ac:m*k<=1000000000:=by have:m*k<=255*255:=bJ (by omega) (by omega);omega
 have aj:(m:Int)*k=((m*k:Nat):Int):=by simp
 have ak:=ad aj;clear aj bl;go_upto_region 3 with(at_make;refine rG eB rfl (.const (.int .i64 0)) (.tmp 14) 22 rfl Tryz.underlying22 .i64 .i64 _ (m*k) rfl rfl ak.out ac (w.heap.size+1) (by simp) ?_);intro z o O;have ap:Fr w z:=ah.below ((Fr.refl w).alloc _) (lL O) (by simp) (fun q D=>by cases D);have F:z.heap[w.heap.size]?=some (.cells #[.int .i64 0,.int .i64 0,.slice none 0 0] 172 (0,0)):=(lL O).heap (a9 _ _ _ rfl) (by intro q;cases q);have bm:=o.lt (w.heap.size+1) (by simp [Value.ownBlock]);have bs:w.heap.size+2<=z.heap.size:=by omega
 have av:(z.alloc (.cells #[N m,N k,.slice (some ⟨w.heap.size+1,0,none⟩) 0 (m*k)] 172)).heap[w.heap.size]?=some (.cells #[.int .i64 0,.int .i64 0,.slice none 0 0] 172 (0,0)):=by rw [ig _ _ _ (by omega)];exact F
 have a0:(z.alloc (.cells #[N m,N k,.slice (some ⟨w.heap.size+1,0,none⟩) 0 (m*k)] 172)).heap[z.heap.size]?=some (.cells #[N m,N k,.slice (some ⟨w.heap.size+1,0,none⟩) 0 (m*k)] 172 (0,0)):=a9 _ _ _ rfl;have a1:z.heap.size<(z.alloc (.cells #[N m,N k,.slice (some ⟨w.heap.size+1,0,none⟩) 0 (m*k)] 172)).heap.size:=by simp
 have a2:Fr w (z.alloc (.cells #[N m,N k,.slice (some ⟨w.heap.size+1,0,none⟩) 0 (m*k)] 172)):=ap.alloc _;have a3:=o.fr ((Fr.refl z).alloc (.cells #[N m,N k,.slice (some ⟨w.heap.size+1,0,none⟩) 0 (m*k)] 172));have a4:(Value.slice (some ⟨w.heap.size+1,0,none⟩) 0 (m*k)).ownBlock≠some z.heap.size:=by simp [Value.ownBlock];omega
 go_upto_region 3 with fail;generalize z.alloc (.cells #[N m,N k,.slice (some ⟨w.heap.size+1,0,none⟩) 0 (m*k)] 172)=w0 at *;generalize bv:Value.slice (some ⟨w.heap.size+1,0,none⟩) 0 (m*k)=bx at *;generalize z.heap.size=r at *;have ca:w.heap.size<r:=by omega
 clear bs bm F ap O o bv ac ak;have Q:=hB;generalize R:w.heap.size=g at *;have a5:Below g w w0:=by rw [<- R];exact a2
 clear a2;go_loopw [18] (fun U wr=>∃ (i:Nat) (d:Value),i<=m/\U=N i/\wr.heap[g]?=some (.cells #[.int .i64 0,.int .i64 0,.slice none 0 0] 172 (0,0))/\wr.heap[r]?=some (.cells #[N m,N k,d] 172 (0,0))/\Ow wr (g+1) eB d (bQ k i 0)/\d.ownBlock≠some r/\Below g w wr/\r<wr.heap.size) (fun U _=>m - (intOf U).toNat);case atStart=>exact⟨0,bx,an _,rfl,av,a0,by rw [DL];exact a3,a4,a5,a1⟩
 case round=>
  clear av a0 a3 a4 a5 a1;obtain⟨i,d,hi,rfl,F,G,o,I,J,M⟩:=hrel;by_cases b0:i<m
  · have b1:(i:Int)<m:=(by omega);go_wp2_with fail;go_loopw [22] (fun V wr=>∃ (j:Nat) (d:Value),j<=k/\V=N j/\wr.heap[g]?=some (.cells #[.int .i64 0,.int .i64 0,.slice none 0 0] 172 (0,0))/\wr.heap[r]?=some (.cells #[N m,N k,d] 172 (0,0))/\Ow wr (g+1) eB d (bQ k i j)/\d.ownBlock≠some r/\Below g w wr/\r<wr.heap.size) (fun V _=>k - (intOf V).toNat);case atStart=>exact⟨0,d,an _,rfl,F,G,o,I,J,M⟩
    case round=>
     clear F G o I J M;obtain⟨j,d,hj,rfl,F,G,o,I,J,M⟩:=hrel;by_cases b2:j<k
     · have cf:(j:Int)<k:=(by omega);have HS:Hid (bQ k i (j+1)=bQ k i j++[kw k i j]):=DM k i j;have b3:=yC k i j;have b4:i*k<=255*255:=bJ (by omega) (by omega);have b5:Hid ((bQ k i j).length+1<=2147483648):=(by show _<=_;omega);have HI:Hid (∀ W,Fr wr W->Calls Tryz.prog 160 #[N i,N j,.pointer (some ⟨B,0,none⟩)] W fun e L=>e=.returned (Fk.u8 (kw k i j))/\W=L):=fun W hW=>(by refine P6 k i j B (by omega) (by omega) W (hW.cell ?_);exact(Below.cell J (by rw [<- R];exact World.block_lt_of_cell? w _ Q)).trans Q);clear b3 b4;generalize kw k i j=c at *;have e2:=af G 2 rfl;have aC:Hid (g+1<=wr.drew.heap.size):=(by show _<=_;have:wr.drew.heap.size=wr.heap.size:=rfl;omega);have X:=o.drew;have b8:∀ q,d.ownBlock=some q->g+1<=q:=fun q D=>(o.lt q D).1;have ch:(j:Int)+1<=255:=(by omega);clear Q hB b0 b2 b1 o hk;go_upto_region 8 with fail
       go_region_law (first
        | (refine q8 eB rfl (.tmp 26) (.tmp 31) 22 rfl Tryz.underlying22 (g + 1) rfl X [c] _ _ _ rfl rfl rfl b5.out aC.out ?_
           intro v' w4 K
           have Y := K.own
           obtain ⟨va, vc, bc⟩ := Y.shape'
           rw [← HS.out] at bc
           subst bc
           have k0 := K.chg'.heap (show wr.drew.heap[g]? = _ from F) (fun e => by have := b8 g e; omega)
           have Z := K.chg'.heap (show wr.drew.heap[r]? = _ from G) I
           have bA : Below g w w4 := K.below X (Below.drew J) (by omega) (by have := aC.out; omega)
           have cj := K.size
           have bd := K.fresh
           have e3 := af Z 2 rfl
           have e4 : w4.frozen? ⟨r, 2, none⟩ = false := al Z 2)
        | (go_simp; go_at_call 160; refine (HI.out _ (Fr.drew (Fr.refl _))).mono ?_; rintro e w3 ⟨rfl, rfl⟩))
       all_goals clear HI e2 X
       all_goals go_wp2_with fail
       all_goals go_roundw
       all_goals first
        | (refine ⟨j + 1, .slice va (bQ k i (j + 1)).length vc, by omega, by go_num, ?_, ?_, ?_, ?_, ?_, ?_⟩
           · rw [nw _ _ _ _ (by simp; omega)]; exact k0
           · exact a8 Z 2 _
           · rw [← HS.out] at Y
             exact Y.chg (ao w4 ⟨r, 2, none⟩ _) fun q D e => by
              have e : q = r := e
              subst e
              rcases bd _ D with h | h
              · exact I h
              · have : wr.drew.heap.size = wr.heap.size := rfl
                omega
           · intro D
             rcases bd _ D with h | h
             · exact I h
             · have : wr.drew.heap.size = wr.heap.size := rfl
               omega
           · exact ex bA (by omega) (by have : wr.drew.heap.size = wr.heap.size := rfl; omega)
           · have : wr.drew.heap.size = wr.heap.size := rfl
             simp [World.setCell]; omega)
        | (simp [intOf];omega)
     · obtain rfl:j=k:=(by omega);have bB:¬((j:Int)<j):=(by omega);rw [<- DO]at o;go_wp2_with fail;go_roundw;case rel=>exact⟨i+1,d,by omega,by go_num,F,G,o,I,J,M⟩
       case measure=>simp [intOf];omega
  · obtain rfl:i=m:=(by omega);have bB:¬((i:Int)<i):=(by omega);have aa:(Tryz.prog.info? 172).map (·.size)=some 3:=(by kernel_rfl);have bL:(#[N i,N k,d]:Array Value).all (·.oneCell')=true:=(by obtain⟨va,vc,rfl⟩:=o.shape';rw [dPQb];rfl);have bR:Ow (wr.setRow g #[N i,N k,d]) (g+1) eB d (bQ k i 0):=o.chg (bC wr g _) fun q D=>(by have:=(o.lt q D).1;show ¬q=g;omega);have bf:Below g w (wr.setRow g #[N i,N k,d]):=ah.below J (bC wr g _) (by omega) (fun q D=>fOQb D.symm);go_wp2_with (first | (refine kD rfl 172 (.tmp 7) rfl r rfl 172 #[N i,N k,d] (0,0) _ G Tryz.underlying172 rfl aa ?_) | (refine bS rfl 172 (.tmp 6) (.tmp 36) rfl g #[N i,N k,d] rfl rfl 172 _ F aa rfl bL ?_));exact aL (v:=pS k i d) (rr Tryz.results159 _ _ g 172 #[N i,N k,d] (0,0) _ rfl (cPQb _ g _ #[N i,N k,d] _ _ F) Tryz.underlying172 rfl aa) rfl ⟨_,rfl,bR.rebase (by omega),by rw [<- R]at bf ⊢;exact bf⟩
theorem ES(k m:Nat)(M:1<=k)(O:k+m<=255)(w:World) :
  Calls Tryz.prog 112 #[N k,N m] w fun e B=>∃ v,e=.returned (.tuple #[pS k m v,.int .i64 0])/\Ow B w.heap.size eB v (bQ k m 0)/\Fr w B:=by
 have ak:∀ (J:Fn) (first K:Array Value) (w:World),(Instr.makeFunc J first K).run Tryz.prog w=.ok (.func J first K) w:=fun _ _ _ _=>rfl;have Q:=ad (rH k (by omega));have R:=ad (rH m (by omega));have U:Hid (∀ W,W.cell? ⟨w.heap.size,0,none⟩=some (N k)->Calls Tryz.prog 159 #[N m,N k,.func (.func 160) #[] #[.pointer (some ⟨w.heap.size,0,none⟩)]] W fun e B=>∃ v,e=.returned (pS k m v)/\Ow B W.heap.size eB v (bQ k m 0)/\Fr W B):=fun W h=>LK k m w.heap.size M O W h;have ap:¬(255:Int)<(k:Int)+m:=by omega
 have av:(k:Int)+m<=255:=by omega
 go_enter Tryz.func112, Tryz.ntmps112;go_wp2_with fail;refine(Q.out _).mono ?_;rintro e w1 ⟨rfl,rfl⟩;go_wp2_with fail;refine(R.out _).mono ?_;rintro e w2 ⟨rfl,rfl⟩;have V:((w.alloc (.cells #[N k] 3)).alloc (.cells #[.int .i64 0,.int .i64 0,.slice none 0 0] 172)).cell? ⟨w.heap.size,0,none⟩=some (N k):=by rw [aA (by rw [ig _ _ _ (by simp)];exact a9 _ _ _ rfl)];rfl
 have X:((w.alloc (.cells #[N k] 3)).alloc (.cells #[.int .i64 0,.int .i64 0,.slice none 0 0] 172)).heap[w.heap.size+1]?=some (.cells #[.int .i64 0,.int .i64 0,.slice none 0 0] 172 (0,0)):=a9 _ _ _ (by simp);have Y:Fr w ((w.alloc (.cells #[N k] 3)).alloc (.cells #[.int .i64 0,.int .i64 0,.slice none 0 0] 172)):=((Fr.refl w).alloc _).alloc _;have a2:((w.alloc (.cells #[N k] 3)).alloc (.cells #[.int .i64 0,.int .i64 0,.slice none 0 0] 172)).heap.size=w.heap.size+2:=by simp
 generalize (w.alloc (.cells #[N k] 3)).alloc (.cells #[.int .i64 0,.int .i64 0,.slice none 0 0] 172)=Z at *;go_wp2_with fail;refine(U.out _ V).mono ?_;rintro e z ⟨v3,rfl,F,G⟩;have D:=G.heap X;have L:=Y.trans G;have a3:=G.size;obtain⟨d,o,rfl⟩:=F.shape';generalize hg:w.heap.size+1=g at *;have aa:(Tryz.prog.info? 172).map (·.size)=some 3:=by kernel_rfl
 have ab:(#[N m,N k,.slice d (bQ k m 0).length o]:Array Value).all (·.oneCell')=true:=by rw [dPQb];rfl
 have q0:=kE z g 0 _ #[N m,N k,.slice d (bQ k m 0).length o] _ _ D;have q1:=kE z g 1 _ #[N m,N k,.slice d (bQ k m 0).length o] _ _ D;have q2:=kE z g 2 _ #[N m,N k,.slice d (bQ k m 0).length o] _ _ D;have ac:Ow (z.setRow g #[N m,N k,.slice d (bQ k m 0).length o]) Z.heap.size eB (.slice d (bQ k m 0).length o) (bQ k m 0):=F.chg (bC z g _) fun q I=>by have:=(F.lt q I).1;show ¬q=g;omega
 have aj:Fr w (z.setRow g #[N m,N k,.slice d (bQ k m 0).length o]):=ah.below L (bC z g _) L.size (fun q I=>by rw [I];omega);unfold pS;go_wp2_with (refine bS rfl 172 (.tmp 4) (.tmp 24) rfl g #[N m,N k,.slice d (bQ k m 0).length o] rfl rfl 172 _ D aa rfl ab ?_);exact aL (v:=.tuple #[.agg #[N m,N k,.slice d (bQ k m 0).length o],.int .i64 0]) (by simp [results,Tryz.results112,go_sem, *]) rfl ⟨_,rfl,ac.rebase (by omega),aj⟩
theorem Ae(M:List UInt8)(R:Nat)(mv dv:Value)(G:List Hd)(d:List (List UInt8))(L:Nat)(w:World)(hM:ai w eB mv M)(V:dl w aQ eB dv G d)
  (hC:1<=d.length) (hC2:d.length<=255) (hR:R<=255) (hMl:M.length=R*d.length) (hl:∀ p∈d,p.length=L) (hL:L<=1000000) :
  Calls Tryz.prog 113 #[.agg #[N R,N d.length,mv],dv] w fun e w'=>∃ v,e=.returned v/\∃ o,Ow w' w.heap.size aQ v o/\de w' w.heap.size eB o (lq M d.length R d L)/\Fr w w':=by
 obtain⟨da,ec,cq,ef,cs,eq⟩:=V.1.shape;obtain⟨D,F,ct,er,cu,es⟩:=hM.shape;subst cq ct;unfold maxLen at cs cu;have ev:=V.2.1;have e3:R*d.length<=255*255:=bJ hR hC2;have bv:=fun i j (hj:j<=d.length)=>wF M d.length i d L j hl hj;have cv:=ad bv;clear bv;have ap:=ad hMl;clear hMl;have bx:(w.alloc (.cells #[N R,N d.length,.slice D M.length F] 172)).heap[w.heap.size]?=some (.cells #[N R,N d.length,.slice D M.length F] 172 (0,0)):=a9 _ _ _ rfl;have b3:Fr w (w.alloc (.cells #[N R,N d.length,.slice D M.length F] 172)):=(Fr.refl w).alloc _;have e4:¬(R:Int)<0:=by omega
 have c1:=oE aQ rfl rfl 95 Tryz.underlying95 .i64 .i64 R (by omega) (w.alloc (.cells #[N R,N d.length,.slice D M.length F] 172));have b4:=pL (base:=w.heap.size+1) aQ rfl rfl R (by omega) (w.alloc (.cells #[N R,N d.length,.slice D M.length F] 172)) (by simp);have c3:=ad b4;clear b4;have X:=b3.alloc (.cells (madeCells #[aQ.z] R) aQ.e);have b5:=((Fr.refl _).alloc (.cells (madeCells #[aQ.z] R) aQ.e)).heap bx;go_enter Tryz.func113, Tryz.ntmps113;go_wp2_with fail;go_loopw [16] (fun iv wr=>∃ (i:Nat) (o:List Hd),i<=R/\iv=N i/\Ow wr (w.heap.size+1) aQ (.slice (some ⟨w.heap.size+1,0,none⟩) R R) o/\o.length=R/\Hid (∀ t (h:t<o.length),t<i->Ow wr (w.heap.size+1) eB o[t].v (jf M d.length t d L d.length))/\wr.heap[w.heap.size]?=some (.cells #[N R,N d.length,.slice D M.length F] 172 (0,0))/\Fr w wr) (fun iv _=>R - (intOf iv).toNat);case atStart=>exact⟨0,_,an _,rfl,by simpa [eg] using c3.out,by simp,fun t h ht=>by omega,b5,X⟩
 case round=>
  clear b5 X c1 bx b3;obtain⟨i,o,hi,rfl,Y,I,HP,hB,K⟩:=hrel;by_cases e6:i<R
  · have J:=V.fr K;obtain⟨b0,e8,e9,c4,e0⟩:=J.1.cell1 (fun(h:Hd)=>h.v) rfl 0 (by omega);have b6:=J.2.2 0 (by omega) (by omega);have b7:=hl _ (bX (l:=d) (n:=0) (by omega));obtain⟨a0,c0,a5,_⟩:=b6.shape;generalize G[0]'(by omega)=h0 at *;rw [b7]at a5;clear b7 b6;obtain⟨fb,m,fc⟩:=h0;simp only [Hd.v,go]at a5;obtain⟨rfl,rfl,rfl⟩:=a5;simp only [Hd.v]at e0;cases c4;rw [et]at e0;have b8:=oE eB rfl rfl 22 Tryz.underlying22 .i64 .i64 m (by omega) wr;have c6:=pL (base:=w.heap.size+1) eB rfl rfl m (by omega) wr (by have Z:=K.size;have h2:=(aM.1 hB).1;have h3:=(Y.lt _ rfl).2;omega);have O:=(Fr.refl wr).alloc (.cells (madeCells #[eB.z] m) eB.e);generalize hW:wr.alloc (.cells (madeCells #[eB.z] m) eB.e)=W at *;have HW:=ad hW;clear hW;have fh:(i:Int)<R:=(by omega);have fk:(0:Int)<G.length:=(by omega);have c8:(Instr.makeSlice 22 (.int .i64 m) (.int .i64 m)).run Tryz.prog wr=.ok (.slice (some ⟨wr.heap.size,0,none⟩) m m) W:=b8;clear b8;go_wp2_with fail;have aa:=K.trans O;have bA:=O.heap hB;have c9:=Y.fr O;have cA:Hid (∀ t (h:t<o.length),t<i->Ow W (w.heap.size+1) eB o[t].v (jf M d.length t d m d.length)):=fun t h ht=>(HP.out t h ht).fr O;clear Y hB K O HP J e0 c8 HW;go_loopw [7,26] (fun sv jv wr=>∃ (j:Nat),j<=d.length/\jv=N j/\Ow wr (w.heap.size+1) eB sv (jf M d.length i d m j)/\Fr W wr) (fun _ jv _=>d.length - (intOf jv).toNat);case atStart=>exact⟨0,an _,rfl,c6,Fr.refl W⟩
    case round=>
     obtain⟨j,hj,rfl,Q,z⟩:=hrel;have ab:=ad (cv.out i j hj);obtain⟨A,B,bB⟩:=Q.shape';rw [ab.out]at bB;subst bB;by_cases aC:j<d.length
     · have J:=V.fr (aa.trans z);obtain⟨b1,fm,fn,cE,e1⟩:=J.1.cell1 (fun(h:Hd)=>h.v) rfl j (by omega);have ba:=J.2.2 j (by omega) aC;have bb:=hl _ (bX (l:=d) (n:=j) aC);have HN:Hid (jf M d.length i d m (j+1)=gQ (jf M d.length i d m j) (M[i*d.length+j]'(by rw [ap.out];have:=dm d.length (show i+1<=R by omega);rw [bU]at this;omega)).toNat d[j]):=(by show _=_;rw [jf,cZ M _ _ (by rw [ap.out];have:=dm d.length (show i+1<=R by omega);rw [bU]at this;omega),cZ d j _ aC]);have cG:i*d.length+j<M.length:=(by rw [ap.out];have:=dm d.length (show i+1<=R by omega);rw [bU]at this;omega);have cL:=hM.fr (aa.trans z);obtain⟨b2,fv,f0,cN,e2⟩:=cL.cell1 (fun c=>Fk.u8 c) rfl (i*d.length+j) cG;have f2:IntKind.i64.wrap ((i:Int)*(d.length:Int))=((i*d.length:Nat):Int):=(by rw [qpQb];exact aw _ (by rw [<- qpQb];omega));obtain⟨aj,cj,bc,_⟩:=ba.shape;generalize G[j]'(by omega)=cR at *;generalize cT:d[j]=dj at *;clear cT;generalize M[i*d.length+j]=c at *;generalize jf M d.length i d m j=bT at *;generalize i*d.length=P at *;rw [bb]at bc;obtain⟨dc,ca,di⟩:=cR;simp only [Hd.v,go]at bc;obtain⟨rfl,rfl,rfl⟩:=bc;simp only [Hd.v]at e1 ba;cases cE;cases cN;have U:=z.heap bA;have k0:=af U 1 rfl;have k1:=af U 2 rfl;have i1:(0:Int)<=j:=(by omega);have i2:(j:Int)<G.length:=(by omega);have f6:IntKind.i64.wrap ((P:Int)+j)=(P:Int)+j:=aw _ (by omega);have i3:(0:Int)<=(P:Int)+j:=(by omega);have i4:(P:Int)+j<M.length:=(by omega);have i5:((P:Int)+j).toNat=P+j:=(by omega);have cb:=ad bb;clear bb;have HA:=ad (fun W1 (Z:ai W1 eB (.slice A ca B) bT) (h2:ai W1 eB (.slice dc ca di) dj)=>Fa _ _ bT dj c.toNat (kF c) W1 Z h2 (by rw [ab.out,cb.out]) (by rw [ab.out];exact hL));by_cases d3:c.toNat=0
       · have fC:(c.toNat:Int)=0:=(by omega);go_wp2_with fail;go_roundw;case rel=>exact⟨j+1,by omega,by go_num,by rw [HN.out,d3,Et _ _ (by rw [ab.out,cb.out])];exact Q,z⟩
         case measure=>simp [intOf];omega
       · have fD:((c.toNat:Int) != 0)=true:=(by rw [bne_iff_ne];omega);have fN:¬(c.toNat:Int)=0:=(by omega);go_wp2_with fail;refine(HA.out _ Q.see ba).mono ?_;rintro e w1 ⟨v1,rfl,d4,X⟩;go_wp2_with fail;go_roundw;case rel=>exact⟨j+1,by omega,by go_num,by rw [HN.out];exact d4.rebase (by have:=(aa.trans z).size;have:=(aM.1 U).1;omega),z.trans X⟩
         case measure=>simp [intOf];omega
     · obtain rfl:j=d.length:=(by omega);have i1:(0:Int)<=i:=(by omega);have d5:¬((d.length:Int)<G.length):=(by omega);have cc:=aa.trans z;have cf:i<o.length:=(by omega);have bf:=c9.fr z;have hu:=bf.cellAt (fun(h:Hd)=>h.v) rfl i cf;have d7:=bf.set (fun(h:Hd)=>h.v) rfl i cf ⟨A,m,B⟩ (.slice A m B) rfl;obtain⟨k0,k1⟩:=hu;generalize ch:o[i].v=pv at *;have ga:=ad ch;clear ch;obtain⟨_,gb,gc,ck,_⟩:=bf.parts;have U:=z.heap bA;have d8:Hid (∀ t (h:t<(o.set i ⟨A,m,B⟩).length),t<i+1->Ow (wr.setCell ⟨w.heap.size+1,i,none⟩ (.slice A m B)) (w.heap.size+1) eB (o.set i ⟨A,m,B⟩)[t].v (jf M d.length t d m d.length)):=by
        intro t h ht;have hT:aQ.e≠eB.e:=(by decide);by_cases cm:t=i;· subst cm;rw [List.getElem_set_self];exact Q.chg (ao wr _ _) (fun q hq e=>Q.ne_cells ck hT (by rw [hq,e]))
        · rw [List.getElem_set_ne (fy cm)];rw [lV]at h;have ho:=(cA.out t h (by omega)).fr z;exact ho.chg (ao wr _ _) (fun q hq e=>ho.ne_cells ck hT (by rw [hq,e]))
       have d9:Fr w (wr.setCell ⟨w.heap.size+1,i,none⟩ (.slice A m B)):=ex cc (by omega) cc.size;have cp:(wr.setCell ⟨w.heap.size+1,i,none⟩ (.slice A m B)).heap[w.heap.size]?=some (.cells #[N R,N d.length,.slice D M.length F] 172 (0,0)):=(by rw [nw _ _ _ _ (by simp)];exact U);have dE:=ad cp;have bl:=ad I;clear cp I;go_wp2_with fail;go_roundw;case rel=>exact⟨i+1,_,by omega,by go_num,d7,by rw [lV];exact bl.out,d8,dE.out,d9⟩
       case measure=>simp [intOf];omega
  · obtain rfl:i=R:=(by omega);have d5:¬((i:Int)<i):=(by omega);have bl:=ad I;clear I;go_wp2_with fail;go_ret;have I:=bl.out;refine⟨.slice (some ⟨w.heap.size+1,0,none⟩) i i,rfl,o,Y.rebase (by omega),⟨by rw [tO];exact I,fun t Z h2=>?_⟩,K⟩;rw [Af M d.length i d L t (by omega)];exact(HP.out t Z (by omega)).rebase (by omega)
theorem AR(w:World)(g:Nat)(d:Array Value)(e:Array Value)(t:TypeId)(h:w.heap[g]?=some (.cells e t (0,0))):(w.setRow g d).heap[g]?=some (.cells d t (0,0)):=by
 simp [World.setRow,Array.getElem?_modify,h]
def n7(m:Nat)(d:List (List UInt8))(L:Nat):List (List UInt8):=lq (bQ d.length m 0) d.length m d L
theorem RF(m:Nat)(z:Value)(I:List Hd)(d:List (List UInt8))(L:Nat)(w:World)(B:dl w aQ eB z I d)
  (hC:1<=d.length) (hm:d.length+m<=255) (hl:∀ p∈d,p.length=L) (hL:L<=1000000) :
  Calls Tryz.prog 75 #[N m,z] w fun e M=>∃ v,e=.returned (.tuple #[v,.int .i64 0])/\∃ J,Ow M w.heap.size aQ v J/\de M w.heap.size eB J (n7 m d L)/\Fr w M:=by
 obtain⟨da,ba,Q,bb,bc,bd⟩:=B.1.shape;have R:=yO B hl;have U:=B.2.1;have HM:=ad (wJ d.length m hC hm);have HA:=ad (fun W h=>yQ z I L W h R);have HC:=ad (ES d.length m hC hm);have HT:=ad (fun W O (h1:ai W eB O (bQ d.length m 0)) (h2:dl W aQ eB z I d)=>Ae (bQ d.length m 0) m O z I d L W h1 h2 hC (by omega) (by omega) (by rw [yC];omega) hl hL);rw [U]at Q;have av:=B.1;clear U hl R;unfold n7;generalize lq (bQ d.length m 0) d.length m d L=bf at *;subst Q;go_enter Tryz.func75, Tryz.ntmps75;go_wp2_with fail;refine(HM.out _).mono ?_;rintro e w1 ⟨rfl,rfl⟩;go_wp2_with fail;refine(HA.out _ av).mono ?_;rintro e w2 ⟨rfl,rfl⟩;go_wp2_with fail;refine(HC.out _).mono ?_;rintro e o ⟨O,rfl,V,K⟩;unfold pS;have X:(Tryz.prog.info? 172).map (·.size)=some 3:=by kernel_rfl
 obtain⟨D,F,rfl⟩:=V.shape';have a0:(#[N m,N d.length,.slice D (bQ d.length m 0).length F]:Array Value).all (·.oneCell')=true:=by rw [dPQb];rfl
 have Y:=a9 o (.cells #[.int .i64 0,.int .i64 0,.slice none 0 0] 172) _ rfl;have a1:=AR _ _ #[N m,N d.length,.slice D (bQ d.length m 0).length F] _ _ Y;have G:Fr o ((o.alloc (.cells #[.int .i64 0,.int .i64 0,.slice none 0 0] 172)).setRow o.heap.size #[N m,N d.length,.slice D (bQ d.length m 0).length F]):=ah.below ((Fr.refl o).alloc _) (bC _ _ _) (by simp) (fun q hq=>by rw [hq];exact am _);have a3:=V.see.fr G;generalize (bQ d.length m 0).length=Z at *;go_wp2_with (first | (refine bS rfl 172 (.tmp 6) (.tmp 23) rfl o.heap.size #[N m,N d.length,.slice D Z F] rfl rfl 172 _ Y X rfl a0 ?_) | (refine kD rfl 172 (.tmp 6) rfl o.heap.size rfl 172 #[N m,N d.length,.slice D Z F] (0,0) _ a1 Tryz.underlying172 rfl X ?_));refine(HT.out _ _ a3 ((B.fr K).fr G)).mono ?_;rintro e w5 ⟨v5,rfl,J,a5,a6,a7⟩;go_wp2_with fail;exact aL (v:=.tuple #[v5,.int .i64 0]) (by simp [results,Tryz.results75,go_sem, *]) rfl ⟨_,rfl,J,a5.rebase (by have:=(K.trans G).size;omega),a6.rebase (by have:=(K.trans G).size;omega),(K.trans G).trans a7⟩
def jl(n i j:Nat):List UInt8:=aN n i9 (i*n+j)
theorem MX(n i j:Nat)(d:j<n):jl n i (j+1)=jl n i j++[i9 i j]:=Bu n i9 i j d
theorem MY(n i:Nat):jl n (i+1) 0=jl n i n:=Bv n i9 i
theorem MW(n:Nat):jl n 0 0=[]:=by simp [jl,aN]
theorem MZ(n i j:Nat):(jl n i j).length=i*n+j:=eh _ _ _
theorem CN(n:Nat):jl n n 0=eK n:=rfl
def qR(n:Nat)(v:Value):Value:=.agg #[N n,N n,v]
theorem LH(i j:Nat)(w:World):Calls Tryz.prog 282 #[N i,N j] w fun e m=>e=.returned (Fk.u8 (i9 i j))/\w=m:=by
 by_cases h:i=j;· subst h;have d:Hid (Fk.u8 (i9 i i)=.int .u8 1):=(by show _=_;unfold i9;rw [ag rfl];rfl);rw [d.out];go_enter Tryz.func282, Tryz.ntmps282;go_wp2_with fail;go_ret;exact⟨rfl,rfl⟩
 · have d:Hid (Fk.u8 (i9 i j)=.int .u8 0):=(by show _=_;unfold i9;rw [ae h];rfl);rw [d.out];have o:¬(i:Int)=j:=(by omega);go_enter Tryz.func282, Tryz.ntmps282;go_wp2_with fail;go_ret;exact⟨rfl,rfl⟩
theorem Ck(n:Nat)(hk:1<=n)(b9:n<=255)(w:World) :
  Calls Tryz.prog 159 #[N n,N n,.func (.func 282) #[] #[]] w fun e J=>∃ v,e=.returned (qR n v)/\Ow J w.heap.size eB v (jl n n 0)/\Fr w J:=by
 have bd:IntKind.i64.wrap ((n:Int)*n)=((n*n:Nat):Int):=by have:n*n<=255*255:=bJ (by omega) (by omega);rw [show(n:Int)*n=((n*n:Nat):Int) by simp];exact iJ _ (by omega)
 go_enter Tryz.func159, Tryz.ntmps159;have X:n*n<=1000000000:=by have:n*n<=255*255:=bJ (by omega) (by omega);omega
 have Y:(n:Int)*n=((n*n:Nat):Int):=by simp
 have Z:=ad Y;clear Y bd;go_upto_region 3 with(at_make;refine rG eB rfl (.const (.int .i64 0)) (.tmp 14) 22 rfl Tryz.underlying22 .i64 .i64 _ (n*n) rfl rfl Z.out X (w.heap.size+1) (by simp) ?_);intro o m L;have aa:Fr w o:=ah.below ((Fr.refl w).alloc _) (lL L) (by simp) (fun q z=>by cases z);have B:o.heap[w.heap.size]?=some (.cells #[.int .i64 0,.int .i64 0,.slice none 0 0] 172 (0,0)):=(lL L).heap (a9 _ _ _ rfl) (by intro q;cases q);have bf:=m.lt (w.heap.size+1) (by simp [Value.ownBlock]);have bk:w.heap.size+2<=o.heap.size:=by omega
 have ab:(o.alloc (.cells #[N n,N n,.slice (some ⟨w.heap.size+1,0,none⟩) 0 (n*n)] 172)).heap[w.heap.size]?=some (.cells #[.int .i64 0,.int .i64 0,.slice none 0 0] 172 (0,0)):=by rw [ig _ _ _ (by omega)];exact B
 have ac:(o.alloc (.cells #[N n,N n,.slice (some ⟨w.heap.size+1,0,none⟩) 0 (n*n)] 172)).heap[o.heap.size]?=some (.cells #[N n,N n,.slice (some ⟨w.heap.size+1,0,none⟩) 0 (n*n)] 172 (0,0)):=a9 _ _ _ rfl;have aj:o.heap.size<(o.alloc (.cells #[N n,N n,.slice (some ⟨w.heap.size+1,0,none⟩) 0 (n*n)] 172)).heap.size:=by simp
 have ak:Fr w (o.alloc (.cells #[N n,N n,.slice (some ⟨w.heap.size+1,0,none⟩) 0 (n*n)] 172)):=aa.alloc _;have ap:=m.fr ((Fr.refl o).alloc (.cells #[N n,N n,.slice (some ⟨w.heap.size+1,0,none⟩) 0 (n*n)] 172));have av:(Value.slice (some ⟨w.heap.size+1,0,none⟩) 0 (n*n)).ownBlock≠some o.heap.size:=by simp [Value.ownBlock];omega
 go_upto_region 3 with fail;generalize o.alloc (.cells #[N n,N n,.slice (some ⟨w.heap.size+1,0,none⟩) 0 (n*n)] 172)=w0 at *;generalize bm:Value.slice (some ⟨w.heap.size+1,0,none⟩) 0 (n*n)=bs at *;generalize o.heap.size=r at *;have bA:w.heap.size<r:=by omega
 clear bk bf B aa L m bm X Z;generalize hg:w.heap.size=g at *;have a1:Below g w w0:=by rw [<- hg];exact ak
 clear ak;go_loopw [18] (fun M wr=>∃ (i:Nat) (d:Value),i<=n/\M=N i/\wr.heap[g]?=some (.cells #[.int .i64 0,.int .i64 0,.slice none 0 0] 172 (0,0))/\wr.heap[r]?=some (.cells #[N n,N n,d] 172 (0,0))/\Ow wr (g+1) eB d (jl n i 0)/\d.ownBlock≠some r/\Below g w wr/\r<wr.heap.size) (fun M _=>n - (intOf M).toNat);case atStart=>exact⟨0,bs,an _,rfl,ab,ac,by rw [MW];exact ap,av,a1,aj⟩
 case round=>
  clear ab ac ap av a1 aj;obtain⟨i,d,hi,rfl,B,D,m,F,G,K⟩:=hrel;by_cases bu:i<n
  · have bv:(i:Int)<n:=(by omega);go_wp2_with fail;go_loopw [22] (fun O wr=>∃ (j:Nat) (d:Value),j<=n/\O=N j/\wr.heap[g]?=some (.cells #[.int .i64 0,.int .i64 0,.slice none 0 0] 172 (0,0))/\wr.heap[r]?=some (.cells #[N n,N n,d] 172 (0,0))/\Ow wr (g+1) eB d (jl n i j)/\d.ownBlock≠some r/\Below g w wr/\r<wr.heap.size) (fun O _=>n - (intOf O).toNat);case atStart=>exact⟨0,d,an _,rfl,B,D,m,F,G,K⟩
    case round=>
     clear B D m F G K;obtain⟨j,d,hj,rfl,B,D,m,F,G,K⟩:=hrel;by_cases a2:j<n
     · have bR:(j:Int)<n:=(by omega);have HS:Hid (jl n i (j+1)=jl n i j++[i9 i j]):=MX n i j a2;have bx:=MZ n i j;have b0:i*n<=255*255:=bJ (by omega) (by omega);have b1:Hid ((jl n i j).length+1<=2147483648):=(by show _<=_;omega);have HI:Hid (∀ W,Calls Tryz.prog 282 #[N i,N j] W fun e J=>e=.returned (Fk.u8 (i9 i j))/\W=J):=LH i j;clear bx b0;generalize i9 i j=c at *;have e2:=af D 2 rfl;have a5:Hid (g+1<=wr.drew.heap.size):=(by show _<=_;have:wr.drew.heap.size=wr.heap.size:=rfl;omega);have Q:=m.drew;have b3:∀ q,d.ownBlock=some q->g+1<=q:=fun q z=>(m.lt q z).1;have bT:(j:Int)+1<=255:=(by omega);clear bu a2 bv m hk;go_upto_region 8 with fail
       go_region_law (first
        | (refine q8 eB rfl (.tmp 26) (.tmp 31) 22 rfl Tryz.underlying22 (g + 1) rfl Q [c] _ _ _ rfl rfl rfl b1.out a5.out ?_
           intro v' w4 I
           have R := I.own
           obtain ⟨va, vc, aC⟩ := R.shape'
           rw [← HS.out] at aC
           subst aC
           have k0 := I.chg'.heap (show wr.drew.heap[g]? = _ from B) (fun e => by have := b3 g e; omega)
           have U := I.chg'.heap (show wr.drew.heap[r]? = _ from D) F
           have b5 : Below g w w4 := I.below Q (Below.drew G) (by omega) (by have := a5.out; omega)
           have ca := I.size
           have ba := I.fresh
           have e3 := af U 2 rfl
           have e4 : w4.frozen? ⟨r, 2, none⟩ = false := al U 2)
        | (go_simp; go_at_call 282; refine (HI.out _).mono ?_; rintro e w3 ⟨rfl, rfl⟩))
       all_goals clear HI e2 Q
       all_goals go_wp2_with fail
       all_goals go_roundw
       all_goals first
        | (refine ⟨j + 1, .slice va (jl n i (j + 1)).length vc, by omega, by go_num, ?_, ?_, ?_, ?_, ?_, ?_⟩
           · rw [nw _ _ _ _ (by simp; omega)]; exact k0
           · exact a8 U 2 _
           · rw [← HS.out] at R
             exact R.chg (ao w4 ⟨r, 2, none⟩ _) fun q z e => by
              have e : q = r := e
              subst e
              rcases ba _ z with h | h
              · exact F h
              · have : wr.drew.heap.size = wr.heap.size := rfl
                omega
           · intro z
             rcases ba _ z with h | h
             · exact F h
             · have : wr.drew.heap.size = wr.heap.size := rfl
               omega
           · exact ex b5 (by omega) (by have : wr.drew.heap.size = wr.heap.size := rfl; omega)
           · have : wr.drew.heap.size = wr.heap.size := rfl
             simp [World.setCell]; omega)
        | (simp [intOf];omega)
     · obtain rfl:j=n:=(by omega);have b6:¬((j:Int)<j):=(by omega);rw [<- MY]at m;go_wp2_with fail;go_roundw;case rel=>exact⟨i+1,d,by omega,by go_num,B,D,m,F,G,K⟩
       case measure=>simp [intOf];omega
  · obtain rfl:i=n:=(by omega);have b6:¬((i:Int)<i):=(by omega);have V:(Tryz.prog.info? 172).map (·.size)=some 3:=(by kernel_rfl);have b7:(#[N i,N i,d]:Array Value).all (·.oneCell')=true:=(by obtain⟨va,vc,rfl⟩:=m.shape';rw [dPQb];rfl);have b8:Ow (wr.setRow g #[N i,N i,d]) (g+1) eB d (jl i i 0):=m.chg (bC wr g _) fun q z=>(by have:=(m.lt q z).1;show ¬q=g;omega);have bb:Below g w (wr.setRow g #[N i,N i,d]):=ah.below G (bC wr g _) (by omega) (fun q z=>fOQb z.symm);go_wp2_with (first | (refine kD rfl 172 (.tmp 7) rfl r rfl 172 #[N i,N i,d] (0,0) _ D Tryz.underlying172 rfl V ?_) | (refine bS rfl 172 (.tmp 6) (.tmp 36) rfl g #[N i,N i,d] rfl rfl 172 _ B V rfl b7 ?_));exact aL (v:=qR i d) (rr Tryz.results159 _ _ g 172 #[N i,N i,d] (0,0) _ rfl (cPQb _ g _ #[N i,N i,d] _ _ B) Tryz.underlying172 rfl V) rfl ⟨_,rfl,b8.rebase (by omega),by rw [<- hg]at bb ⊢;exact bb⟩
theorem Sj(n:Nat)(I:1<=n)(J:n<=255)(w:World) :
  Calls Tryz.prog 267 #[N n] w fun e F=>∃ v,e=.returned (.tuple #[qR n v,.int .i64 0])/\Ow F w.heap.size eB v (eK n)/\Fr w F:=by
 have K:=ad (rH n (by omega));have L:=ad (fun W=>Ck n I J W);go_enter Tryz.func267, Tryz.ntmps267;go_wp2_with fail;refine(K.out _).mono ?_;rintro e Y ⟨rfl,rfl⟩;have M:(w.alloc (.cells #[.int .i64 0,.int .i64 0,.slice none 0 0] 172)).heap[w.heap.size]?=some (.cells #[.int .i64 0,.int .i64 0,.slice none 0 0] 172 (0,0)):=a9 _ _ _ rfl;have O:Fr w (w.alloc (.cells #[.int .i64 0,.int .i64 0,.slice none 0 0] 172)):=(Fr.refl w).alloc _;have Z:(w.alloc (.cells #[.int .i64 0,.int .i64 0,.slice none 0 0] 172)).heap.size=w.heap.size+1:=by simp
 generalize w.alloc (.cells #[.int .i64 0,.int .i64 0,.slice none 0 0] 172)=Q at *;go_wp2_with fail;refine(L.out _).mono ?_;rintro e m ⟨v3,rfl,o,B⟩;rw [CN]at o;have z:=B.heap M;have G:=O.trans B;have aa:=B.size;obtain⟨d,h,rfl⟩:=o.shape';generalize hg:w.heap.size=g at *;have R:(Tryz.prog.info? 172).map (·.size)=some 3:=by kernel_rfl
 have U:(#[N n,N n,.slice d (eK n).length h]:Array Value).all (·.oneCell')=true:=by rw [dPQb];rfl
 have q0:=kE m g 0 _ #[N n,N n,.slice d (eK n).length h] _ _ z;have q1:=kE m g 1 _ #[N n,N n,.slice d (eK n).length h] _ _ z;have q2:=kE m g 2 _ #[N n,N n,.slice d (eK n).length h] _ _ z;have V:Ow (m.setRow g #[N n,N n,.slice d (eK n).length h]) Q.heap.size eB (.slice d (eK n).length h) (eK n):=o.chg (bC m g _) fun q D=>by have:=(o.lt q D).1;show ¬q=g;omega
 have X:Fr w (m.setRow g #[N n,N n,.slice d (eK n).length h]):=ah.below G (bC m g _) G.size (fun q D=>by rw [D];omega);unfold qR;go_wp2_with (refine bS rfl 172 (.tmp 2) (.tmp 10) rfl g #[N n,N n,.slice d (eK n).length h] rfl rfl 172 _ z R rfl U ?_);exact aL (v:=.tuple #[.agg #[N n,N n,.slice d (eK n).length h],.int .i64 0]) (by simp [results,Tryz.results267,go_sem, *]) rfl ⟨_,rfl,V.rebase (by omega),X⟩
end Go.Proofs.YtfpijnhhdfoohaaGreatDoor
