/- Parts of the proof of ArchEnds: Vd Vk Vg Vi. -/
import Derived.Test.YtfpijnhhdfoohaaGreatDoorM28
import Derived.Test.YtfpijnhhdfoohaaGreatDoorM42
import Derived.Test.YtfpijnhhdfoohaaGreatDoorM01
import Derived.Test.YtfpijnhhdfoohaaGreatDoorM44
import Derived.Test.YtfpijnhhdfoohaaGreatDoorM10
import Derived.Test.YtfpijnhhdfoohaaGreatDoorM19
import Derived.Test.YtfpijnhhdfoohaaGreatDoorM35
import Derived.Test.YtfpijnhhdfoohaaGreatDoorM12
import Derived.Deep.RegionHeld3
set_option linter.unusedVariables false
set_option linter.unusedSectionVars false
set_option linter.unusedSimpArgs false
set_option maxHeartbeats 8000000
set_option maxRecDepth 100000
namespace Go.Proofs.YtfpijnhhdfoohaaGreatDoor
open Go.RowKit Go.Fk
theorem GA(b:List UInt8):∀ k s e d,(eP b k s e d).2.er=0->(eP b k s e d).1.length=d.length+k:=by
 intro k
 induction k with
 | zero=>intro s e d _;rfl
 | succ k o=>
  intro s e d h;rw [eP]at h ⊢;by_cases m:s.er=0;· rw [ag m]at h ⊢;rw [o _ _ _ h,aD,lg];omega
  · rw [ae m]at h;exact absurd h m
theorem G9(b:List UInt8):∀ k s m d,(∀ t∈d,t<18446744073709551616)->∀ t∈(eP b k s m d).1,t<18446744073709551616:=by
 intro k
 induction k with
 | zero=>intro s m d h;exact h
 | succ k o=>
  intro s m d h;rw [eP];split;· refine o _ _ _ fun t q=>(iZ.1 q).elim (h t) fun e=>?_;rw [lT.1 e];exact kH _ (by decide)
  · exact h
theorem LM(b:List UInt8)(n:Nat):∀ f s d,(fo b n f s d).2.er=0->n<=d.length+f->d.length<=n->(fo b n f s d).1.length=n:=by
 intro f
 induction f with
 | zero=>intro s d _ z A;show d.length=n;omega
 | succ f B=>
  intro s d h z A;rw [fo]at h ⊢;by_cases o:d.length<n/\s.er=0
  · rw [ag o]at h ⊢;have m:(oF b n s d).er=0:=tA fun e=>(by rw [Cm b n f _ _ e]at h;exact e h);have D:¬(gI b n s d).1=0:=fun e=>by
     unfold oF at m;split at m;· cases m
     · rename_i q;exact q ⟨m,.inl e⟩
    have F:=Cn b n s d;exact B _ _ h (by rw [aD,jX];omega) (by rw [aD,jX];omega)
  · rw [ae o]at h ⊢;have q:¬d.length<n:=fun e=>o ⟨e,h⟩;show d.length=n;omega
theorem LO(b:List UInt8)(n:Nat):∀ f s d,¬s.er=0->(fo b n f s d).2.er≠0:=by
 intro f s d h;rw [Cm b n f s d h];exact h
theorem Pf(n:Nat)(b:List UInt8)(h:(dY n b).2.2.2=0):(dY n b).1.length=n/\(dY n b).2.1.length=n/\∀ t∈(dY n b).1,t<18446744073709551616:=by
 unfold dY at h ⊢;by_cases d:(s8 n b).2.er=0
 · rw [ag d];have m:(s9 n b).2.er=0:=tA fun e=>LO b n n _ [] e d;refine⟨?_,?_,?_⟩;· have o:(s9 n b).1.length=0+n:=GA b n ⟨0,0⟩ 0 [] m;show(s9 n b).1.length=n;omega
   · exact LM b n n _ [] d (by simp) (an _)
   · exact G9 b n ⟨0,0⟩ 0 [] fun t h=>(gz h).elim
 · rw [ae d]at h;exact absurd h d
theorem O3(b:List UInt8)(m:Nat):∀ k s d e,d.length=e.length->(fJ b m k s d e).1.length=(fJ b m k s d e).2.1.length:=by
 intro k
 induction k with
 | zero=>intro s d e h;exact h
 | succ k o=>
  intro s d e h;rw [fJ];split;· exact o _ _ _ (by rw [aD,aD,h];rfl)
  · exact h
theorem O5(b:List UInt8):(cM b).1.length=(cM b).2.1.length:=by unfold cM;exact O3 b _ _ _ [] [] rfl
theorem OS(l:List Nat):∀ b:List UInt8,∀ f∈gl l b,f.length<=b.length:=by
 induction l with
 | nil=>intro b f h;exact(gz h).elim
 | cons z l d=>
  intro b f h;rw [gl]at h;rcases jW.1 h with e | h;· rw [e,aG];omega
  · have:=d _ f h;rw [aU]at this;omega
theorem Mk(d:Nat)(b:List UInt8)(n:Nat):∀ (a:Nat) (e:List (List Nat)),(∀ x∈e,x.length<=d)->(fp d b n a e).1.length<=e.length+n/\∀ x∈(fp d b n a e).1,x.length<=d:=by
 induction n with
 | zero=>
  intro a e h;rw [fp];split;· exact⟨an _,fun x m=>(gz m).elim⟩
  · exact⟨am _,h⟩
 | succ n q=>
  intro a e h;rw [fp];split
  · rename_i z;split;· exact⟨an _,fun x m=>(gz m).elim⟩
    · have A:=(Dk d (b.drop a) z).2.2.1;have o := q (a + (dX d (b.drop a)).2.1) (e ++ [(dX d (b.drop a)).1]) (fun x m => by
       rcases iZ.1 m with h | B;· exact (by assumption : ∀ x ∈ e, x.length ≤ d) x h
       · rw [lT.1 B]; exact A)
      rw [aD]at o;simp only [cd,lh]at o;exact⟨by omega,o.2⟩
  · exact⟨an _,fun x m=>(gz m).elim⟩
theorem Ka(size e:Nat)(b:List UInt8)(o:1<=size)(q:size<=64)(A:e<=20000):(gE size e b).1.length<=100000000/\(gE size e b).2.1.length<=100000000/\∀ x∈(gE size e b).2.1,x.length<=100000000:=by
 have h:=Ds size b o q;obtain⟨m,z⟩:=Mk e (b.drop (co size b).2.1) (co size b).1.length 0 [] (fun x d=>(gz d).elim);simp only [lh,iX]at m;unfold gE;split
 · split;· exact⟨h,az m h,fun x d=>by have:=z x d;omega⟩
   · exact⟨an _,an _,fun x d=>(gz d).elim⟩
 · exact⟨an _,an _,fun x d=>(gz d).elim⟩
structure sZ (B:eY):Prop where
 fr:B.frames.length=B.counts.length
 tm:B.times.length=B.counts.sum
 lv:B.levels.length=B.counts.sum
 sm:B.counts.sum<=20000
 nf:B.frames.length<=20000
 fl:∀ f∈B.frames,f.length<=1000000
 tl:∀ t∈B.times,t<18446744073709551616
 te:B.terms.length<=100000000
 li:B.lists.length<=100000000
 ll:∀ x∈B.lists,x.length<=100000000
theorem KN(d:Nat)(b:List UInt8):(iP d b).counts=(cM (aZ b)).1/\(iP d b).frames=gl (cM (aZ b)).2.1 (fK b)/\(iP d b).times=(dY (cy (aZ b)).1 (aS (jR b))).1/\(iP d b).levels=(dY (cy (aZ b)).1 (aS (jR b))).2.1 /\
  (iP d b).terms=(gE d (cy (aZ b)).1 (aS (iC b))).1/\(iP d b).lists=(gE d (cy (aZ b)).1 (aS (iC b))).2.1:=by
 refine⟨?_,?_,?_,?_,?_,?_⟩ <;> simp only [iP]
theorem Pg(n:Nat)(c:List UInt8)(h:kU n c=0):(dY n (aS c)).2.2.2=0:=by
 rw [D4]at h;split at h
 · split at h;· assumption
   · rename_i d;exact absurd h d
 · rename_i e;exact absurd h e
theorem KL(m:Nat)(b:List UInt8)(h:pD m b=0):lN (aZ b) (fK b).length=0/\kU (cy (aZ b)).1 (jR b)=0:=by
 rw [BF]at h;split at h
 · split at h
   · rename_i d;split at h;· rename_i e;exact⟨d,e⟩
     · rename_i e;exact absurd h e
   · rename_i d;exact absurd h d
 · rename_i o;exact absurd h o
theorem BH(o:dN)(b:List UInt8)(M:b.length<=1000000)(h:fY o b=0):sZ (iP o.bu.toNat b):=by
 have D:gF o=true:=by
  cases O:gF o;· unfold fY at h;rw [O]at h;cases h
  · rfl
 unfold fY at h;rw [ag D]at h;obtain⟨_,_,k1,k2⟩:=(uk o).1 D;have Q:1<=o.bu.toNat:=by omega
 have R:o.bu.toNat<=64:=by omega
 generalize o.bu.toNat=d at *;have U:=(El b).1;have F:=yo (aZ b);obtain⟨G,I⟩:=KL d b h;have m:=(Dq (aZ b) _ G).1;have q:=Pf _ _ (Pg _ _ I);have z:=Ka d (cy (aZ b)).1 (aS (iC b)) Q R F.1;have V:=O5 (aZ b);have X:=OS (cM (aZ b)).2.1 (fK b);have J:=Du (cM (aZ b)).2.1 (fK b);obtain⟨e,A,K,Y,Z,L⟩:=KN d b;obtain⟨g1,_,_,g4,_⟩:=F;clear h G I;generalize iP d b=B at *;refine⟨?_,?_,?_,?_,?_,?_,?_,?_,?_,?_⟩;· rw [e,A,J];exact V.symm
 · rw [K,e,m];exact q.1
 · rw [Y,e,m];exact q.2.1
 · rw [e,m];exact g1
 · rw [A,J];exact g4
 · rw [A];intro f hf;exact az (X f hf) (az U M)
 · rw [K];exact q.2.2
 · rw [Z];exact z.1
 · rw [L];exact z.2.1
 · rw [L];exact z.2.2
def aF.tl(r:aF)(t:Nat)(c:UInt8):aF:=⟨UInt64.ofNat t,c,r.source,r.text⟩
def qy(B:eY)(k:Nat)(l:List aF):List aF:=l.mapIdx fun i r=>r.tl (B.times.getD (k+i) 0) (B.levels.getD (k+i) 0)
def en(B:eY)(k:Nat):List UInt8:=B.frames.getD k []
def gJ(B:eY)(k:Nat):List aF × Nat:=
 if (aT (en B k)).2.2 = 0 then
  (if (aT (en B k)).2.1 < (en B k).length then ([], 2)
   else if (dS false (aT (en B k)).1).2 = 0 then
    (if (dS false (aT (en B k)).1).1.length = B.counts.getD k 0 then (qy B (B.counts.take k).sum (dS false (aT (en B k)).1).1, 0) else ([], 2))
   else ([], (dS false (aT (en B k)).1).2))
 else([],(aT (en B k)).2.2)
def kP(B:eY):Nat->Nat->List aF->List aF × Nat
 | 0,_,d=>(d,0)
 | n+1,k,d=>if(gJ B k).2=0 then kP B n (k+1) (d++(gJ B k).1)else([],(gJ B k).2)
def lI(B:eY):List aF × Nat:=kP B B.frames.length 0 []
def qQ(B:eY)(l:List aF):Bool:=decide (B.terms=iT (l.map aF.ts)) && decide (B.lists=oH (l.map aF.ts))
def gr(B:eY):List aF × Nat:=
 if(lI B).2=0 then(if fZ (lI B).1=true then(if qQ B (lI B).1=true then((lI B).1,0)else([],15))else([],6))else([],(lI B).2)
theorem vZ(B:eY)(k:Nat)(l:List aF):(qy B k l).length=l.length:=List.length_mapIdx
theorem Nx(B:eY)(k:Nat):(gJ B k).1.length<=32768:=by
 have d:=uQ (en B k);have e:=wN false (aT (en B k)).1;unfold gJ;split
 · split;· exact an _
   · split
     · split;· rw [vZ];omega
       · exact an _
     · exact an _
 · exact an _
theorem GC(B:eY)(k:Nat)(l:List aF)(i:Nat)(h:i<l.length):(qy B k l)[i]'(by rw [vZ];exact h)=l[i].tl (B.times.getD (k+i) 0) (B.levels.getD (k+i) 0):=by
 unfold qy;rw [List.getElem_mapIdx]
theorem L9{α:Type}(R l:List α)(i:Nat)(o:R.length=l.length)(d:i<l.length):(R.take i++l.drop i).set i (R[i]'(by omega))=R.take (i+1)++l.drop (i+1):=by
 have e:R.take (i+1)=R.take i++[R[i]'(by omega)]:=gy (by omega);have h:l.drop i=l[i]::l.drop (i+1):=ip d;have m:i - (R.take i).length=0:=by rw [aG];omega
 rw [e,h,zj _ _ (by rw [aG];omega),m,vy,mG,List.singleton_append]
theorem BY{α:Type}(R l:List α)(i:Nat)(d:R.length=l.length)(e:i<=l.length):(R.take i++l.drop i).length=l.length:=by
 rw [aD,aG,aU];omega
theorem LA{α:Type}(R l:List α)(i:Nat)(d:R.length=l.length)(e:i<l.length):(R.take i++l.drop i)[i]'(by rw [BY R l i d (by omega)];exact e)=l[i]:=by
 rw [nu (by rw [aG];omega)];simp only [vB,aG];congr 1;omega
theorem Of(l:List aF)(i:Nat)(h:i<l.length)(t:Nat)(d:t<18446744073709551616)(c:UInt8):eR.cells (l.set i (l[i].tl t c))=((eR.cells l).set (i*4) (.int .u64 (t:Int))).set (i*4+1) (Fk.u8 c):=by
 induction l generalizing i with
 | nil=>cases h
 | cons y l m=>
  have e:∀ (y:aF) l,eR.cells (y::l)=.int .u64 y.time.toNat::Fk.u8 y.level::S y.source::S y.text::eR.cells l:=fun y l=>by simp [au.cells,eR,aF.cells]
  cases i with
  | zero=>rw [vy,e,e,zn];have:(UInt64.ofNat t).toNat=t:=(by rw [UInt64.toNat_ofNat',oU d]);show Value.int .u64 ((UInt64.ofNat t).toNat:Int)::Fk.u8 c::S y.source::S y.text::_=_;rw [this];rfl
  | succ i=>rw [List.set_cons_succ,e,e,List.getElem_cons_succ,m i (by simpa using h),show(i+1)*4=i*4+1+1+1+1 by omega];rfl
theorem K0{w:World}{base g n d:Nat}{l:List aF}(h:Ow w base eR (.slice (some ⟨g,0,none⟩) n d) l)(i:Nat)(e:i<l.length)(t:Nat)(m:t<18446744073709551616)(c:UInt8) :
  Ow ((w.setCell ⟨g,i*4,none⟩ (.int .u64 (t:Int))).setCell ⟨g,i*4+1,none⟩ (Fk.u8 c)) base eR (.slice (some ⟨g,0,none⟩) n d) (l.set i (l[i].tl t c)):=by
 obtain⟨o,q,z,A,B,D,F,G⟩:=h.parts;have I:(eR).k=4:=rfl;have J:=Of l i e t m c;refine⟨eR.length_cells _,.inr ⟨g,d,(z.setIfInBounds (i*4) (.int .u64 (t:Int))).setIfInBounds (i*4+1) (Fk.u8 c),by rw [o,lV],q,a8 (a8 A _ _) _ _,by rw [lV];exact B,D,by simpa using F,?_⟩⟩;rw [J,<- G,lV,I,vI,vI,List.take_set,List.take_set]
end Go.Proofs.YtfpijnhhdfoohaaGreatDoor
namespace Go.Fk
def aH(e:Nat):Prop:=e<=9\/e=12\/e=13\/e=15
theorem aO{e:Nat}(h:e<=9):aH e:=.inl h
theorem BQ(l:List UInt8):(bO l).2.2<=2:=by
 by_cases h:(bO l).2.2=0;· omega
 · exact((uo l 0 0 (by omega) (by decide)).2.2 h).2.2
theorem xR(d:Nat)(l:List UInt8):aH (ay d l).2.2:=by
 have:=BQ l;unfold ay;split
 · split;· ((try dsimp only);exact aO (by decide))
   · exact aO (by omega)
 · exact aO (by show(bO l).2.2<=9;omega)
theorem Gu(d:Nat)(l:List UInt8):aH (ed d l).2.2:=by
 have:=xR d l;unfold ed;split
 · split;· ((try dsimp only);exact aO (by decide))
   · ((try dsimp only);exact aO (by decide))
 · exact this
theorem Cs.step_erN(s:Cs)(r:Nat × Nat × Nat)(h:aH s.er)(d:aH r.2.2):aH (s.step r).er:=by
 unfold Cs.step;split
 · split;· ((try dsimp only);exact aO (by decide))
   · exact d
 · exact h
theorem Cs.num_erN(s:Cs)(l:List UInt8)(h:aH s.er):aH (s.num l).2.er:=s.step_erN _ h (aO (by have:=BQ (l.drop s.at_);omega))
theorem Cs.int_erN(s:Cs)(l:List UInt8)(d:Nat)(h:aH s.er):aH (s.int l d).2.er:=s.step_erN _ h (xR _ _)
theorem Cs.text_erN(s:Cs)(l:List UInt8)(d:Nat)(h:aH s.er):aH (s.text l d).2.er:=s.step_erN _ h (Gu _ _)
theorem Cs.take_erN(s:Cs)(l:List UInt8)(k:Nat)(h:aH s.er):aH (s.take l k).2.er:=by
 unfold Cs.take;split
 · split;· ((try dsimp only);exact aO (by decide))
   · ((try dsimp only);exact aO (by decide))
 · exact h
theorem Cs.byte_erN(s:Cs)(l:List UInt8)(h:aH s.er):aH (s.byte l).2.er:=s.take_erN l 1 h
theorem Cs.fail_erN(s:Cs)(e:Nat)(h:aH s.er)(d:aH e):aH (s.fail e).er:=by
 unfold Cs.fail;split;· exact d
 · exact h
theorem Cs.fin_erN(s:Cs)(l:List UInt8)(h:aH s.er):aH (s.fin l).er:=by
 unfold Cs.fin;split;· ((try dsimp only);exact aO (by decide))
 · exact h
theorem dW:aH 0:=aO (by decide)
theorem qX(l:List UInt8):aH (bP l):=by
 unfold bP;split;· ((try dsimp only);exact dW)
 · split <;> ((try dsimp only);exact aO (by decide))
theorem xM(l:List UInt8):aH (bh l).2:=by
 unfold bh;split;· ((try dsimp only);exact aO (by decide))
 · split;· split <;> ((try dsimp only);exact aO (by decide))
   · ((try dsimp only);exact aO (by decide))
theorem Cv(r:List UInt8)(n:Nat):∀ f a d e,aH (dn r n f a d e).2.2:=by
 intro f
 induction f with
 | zero=>intro a d e;exact dW
 | succ f h=>
  intro a d e;rw [dn];split;· ((try dsimp only);exact dW)
  · split;· ((try dsimp only);exact aO (by decide))
    · split;· ((try dsimp only);exact h _ _ _)
      · split;· ((try dsimp only);exact aO (by decide))
        · split;· ((try dsimp only);exact aO (by decide))
          · ((try dsimp only);exact h _ _ _)
theorem Cu(r:List UInt8)(n a:Nat):aH (bi r n a).2.2:=by
 unfold bi;split
 · split;· ((try dsimp only);exact Cv _ _ _ _ _ _)
   · ((try dsimp only);exact aO (by decide))
 · ((try dsimp only);exact Cv _ _ _ _ _ _)
theorem CU(d r:List UInt8)(a:Nat):aH (aE d r a).2.2:=by
 unfold aE;split;· ((try dsimp only);exact dW)
 · show aH (if _ then 1 else 7);split <;> ((try dsimp only);exact aO (by decide))
theorem L5(d r:List UInt8)(s a:Nat):aH (cY d r s a).2.2:=by
 unfold cY;split;· ((try dsimp only);exact aO (by decide))
 · split;· split <;> ((try dsimp only);exact aO (by decide))
   · ((try dsimp only);exact CU _ _ _)
theorem GO(m o r:List UInt8):∀ f d a e,aH (fA m o r f d a e).2.2:=by
 intro f
 induction f with
 | zero=>intro d a e;exact dW
 | succ f h=>
  intro d a e;rw [fA];split
  · split;· ((try dsimp only);exact dW)
    · split
      · split;· ((try dsimp only);exact aO (by decide))
        · ((try dsimp only);exact h _ _ _)
      · split
        · split;· ((try dsimp only);exact aO (by decide))
          · ((try dsimp only);exact h _ _ _)
        · ((try dsimp only);exact L5 _ _ _ _)
  · ((try dsimp only);exact CU _ _ _)
theorem GE(r:List UInt8)(d:Nat):aH (ee r d).2:=by
 unfold ee;split
 · split
   · split;· split <;> ((try dsimp only);exact aO (by decide))
     · ((try dsimp only);exact GO _ _ _ _ _ _ _)
   · ((try dsimp only);exact Cu _ _ _)
 · ((try dsimp only);exact Cu _ _ _)
theorem Kh(e:Nat)(l:List aW):∀ d,aH (dU e l d).2:=by
 induction l with
 | nil=>intro d;exact dW
 | cons t l h=>
  intro d;rw [dU];split;· ((try dsimp only);exact aO (by decide))
  · split;· ((try dsimp only);exact aO (by decide))
    · split;· ((try dsimp only);exact aO (by decide))
      · split <;> ((try dsimp only);exact h _)
theorem Gc(n:Nat)(d:List UInt8):aH (oY n d).2:=by
 unfold oY;split
 · split;· split <;> ((try dsimp only);exact aO (by decide))
   · ((try dsimp only);exact Kh _ _ _)
 · ((try dsimp only);exact GE _ _)
theorem PU(b:List UInt8):aH (gM b).2.er:=by
 have d:aH (dF b).2.er:=Cs.byte_erN _ _ dW;have h:aH (mY b).er:=by
  unfold mY;split;· ((try dsimp only);exact Cs.fail_erN _ _ d (aO (by decide)))
  · exact d
 have m:aH (cU b).2.er:=Cs.int_erN _ _ _ h;have e:aH (dB b).2.er:=Cs.int_erN _ _ _ m;have o:aH (jQ b).er:=by
  unfold jQ;split;· ((try dsimp only);exact Cs.fail_erN _ _ e (aO (by decide)))
  · exact e
 ((try dsimp only);exact Cs.take_erN _ _ _ (Cs.take_erN _ _ _ o))
theorem Ec(b:List UInt8):aH (aT b).2.2:=by
 unfold aT;split
 · split;· ((try dsimp only);exact dW)
   · dsimp only;unfold dM;split;· split <;> ((try dsimp only);exact aO (by decide))
     · ((try dsimp only);exact Gc _ _)
 · dsimp only;unfold jP;split;· ((try dsimp only);exact qX _)
   · ((try dsimp only);exact PU _)
theorem Oe(m w:Nat)(r:List UInt8):∀ k i a d e h,aH (dI m w r k i a d e h).2.2:=by
 intro k
 induction k with
 | zero=>intro i a d e h;exact dW
 | succ k o=>
  intro i a d e h;rw [dI];split
  · split;· ((try dsimp only);exact aO (by decide))
    · split;· ((try dsimp only);exact aO (by decide))
      · ((try dsimp only);exact o _ _ _ _ _)
  · ((try dsimp only);exact aO (by decide))
theorem Oa(d:Nat)(b:List UInt8):aH (dX d b).2.2:=by
 unfold dX;split
 · split;· ((try dsimp only);exact dW)
   · split;· ((try dsimp only);exact aO (by decide))
     · split;· split <;> ((try dsimp only);exact aO (by decide))
       · ((try dsimp only);exact Oe _ _ _ _ _ _ _ _ _)
 · exact xR _ _
theorem Lj(d:Cs)(part e:List UInt8)(first:Bool)(h:aH d.er):aH (iQ d part e first).er:=by
 have m:aH (kh d part e first).2.er:=by
  unfold kh;split;· exact h
  · ((try dsimp only);exact Cs.int_erN _ _ _ h)
 have o:aH (jj d part e first).2.er:=Cs.text_erN _ _ _ m;unfold iQ;split;· ((try dsimp only);exact aO (by decide))
 · exact o
theorem NL(part:List UInt8):∀ k i d t,aH d.er->aH (gk part k i d t).2:=by
 intro k
 induction k with
 | zero=>intro i d t h;exact Cs.fin_erN _ _ h
 | succ k m=>
  intro i d t h;have e:=Lj d part (t.getLastD []) (decide (i=0)) h;rw [gk];split;· ((try dsimp only);exact m _ _ _ e)
  · exact e
theorem Ho(b:List UInt8):∀ k s l,aH s.er->aH (fR b k s l).2.er:=by
 intro k
 induction k with
 | zero=>intro s l h;exact h
 | succ k d=>
  intro s l h;rw [fR];split;· ((try dsimp only);exact d _ _ (Cs.int_erN _ _ _ h))
  · exact h
theorem OD(b:List UInt8)(size n:Nat):∀ l i s t,aH s.er->aH (fq b size n l i s t).2.2:=by
 intro l
 induction l with
 | nil=>intro i s t h;exact h
 | cons k l d=>
  intro i s t h;rw [fq];split
  · split;· ((try dsimp only);exact d _ _ _ (Cs.take_erN _ _ _ h))
    · ((try dsimp only);exact NL _ _ _ _ _ dW)
  · ((try dsimp only);exact Cs.take_erN _ _ _ h)
theorem O8(size:Nat)(b:List UInt8):aH (co size b).2.2:=by
 unfold co;split;· ((try dsimp only);exact dW)
 · ((try dsimp only);exact OD _ _ _ _ _ _ _ (Ho _ _ _ _ (Cs.int_erN _ _ _ dW)))
theorem Ml(e:Nat)(b:List UInt8):∀ k a d,aH (fp e b k a d).2:=by
 intro k
 induction k with
 | zero=>intro a d;rw [fp];split <;> ((try dsimp only);exact aO (by decide))
 | succ k h=>
  intro a d;rw [fp];split
  · split;· ((try dsimp only);exact aO (by decide))
    · ((try dsimp only);exact h _ _)
  · ((try dsimp only);exact Oa _ _)
theorem Kb(size d:Nat)(b:List UInt8):aH (gE size d b).2.2:=by
 unfold gE;split
 · split;· ((try dsimp only);exact dW)
   · ((try dsimp only);exact Ml _ _ _ _ _)
 · ((try dsimp only);exact O8 _ _)
theorem GB(b:List UInt8):∀ k s d e,aH s.er->aH (eP b k s d e).2.er:=by
 intro k
 induction k with
 | zero=>intro s d e h;exact h
 | succ k m=>
  intro s d e h;rw [eP];split;· ((try dsimp only);exact m _ _ _ (Cs.num_erN _ _ h))
  · exact h
theorem LN(b:List UInt8)(n:Nat):∀ f s d,aH s.er->aH (fo b n f s d).2.er:=by
 intro f
 induction f with
 | zero=>intro s d h;exact h
 | succ f e=>
  intro s d h;have m:aH (gI b n s d).2.er:=Cs.int_erN _ _ _ (Cs.byte_erN _ _ h);have o:aH (oF b n s d).er:=by
   unfold oF;split;· ((try dsimp only);exact aO (by decide))
   · exact m
  rw [fo];split;· ((try dsimp only);exact e _ _ o)
  · exact h
theorem Ph(n:Nat)(c:List UInt8):aH (kU n c):=by
 have h:aH (dY n (aS c)).2.2.2:=by
  unfold dY;split;· ((try dsimp only);exact dW)
  · ((try dsimp only);exact LN _ _ _ _ _ (GB _ _ _ _ _ dW))
 unfold kU;split
 · split;· split <;> ((try dsimp only);exact aO (by decide))
   · exact h
 · ((try dsimp only);exact qX _)
theorem O4(b:List UInt8)(m:Nat):∀ k s d e,aH s.er->aH (fJ b m k s d e).2.2.er:=by
 intro k
 induction k with
 | zero=>intro s d e h;exact h
 | succ k o=>
  intro s d e h;rw [fJ];split;· ((try dsimp only);exact o _ _ _ (Cs.int_erN _ _ _ (Cs.int_erN _ _ _ h)))
  · exact h
theorem O6(b:List UInt8)(d:Nat):aH (lN b d):=by
 have e:aH (lM b).2.er:=Cs.int_erN _ _ _ (Cs.int_erN _ _ _ dW);have h:aH (cM b).2.2.er:=O4 _ _ _ _ _ _ e;have m:aH (jN b).2.er:=Cs.int_erN _ _ _ (Cs.int_erN _ _ _ h);unfold lN;split;· split <;> ((try dsimp only);exact aO (by decide))
 · ((try dsimp only);exact Cs.fin_erN _ _ m)
theorem KM(d:Nat)(b:List UInt8):aH (pD d b):=by
 unfold pD;split
 · split
   · split
     · split;· ((try dsimp only);exact Kb _ _ _)
       · ((try dsimp only);exact qX _)
     · ((try dsimp only);exact Ph _ _)
   · ((try dsimp only);exact O6 _ _)
 · unfold jJ;split;· ((try dsimp only);exact aO (by decide))
   · split;· ((try dsimp only);exact aO (by decide))
     · ((try dsimp only);exact qX _)
end Go.Fk
namespace Go.Proofs.YtfpijnhhdfoohaaGreatDoor
open Go.RowKit Go.Fk
theorem Bk(d:Bool)(b:List UInt8)(s:Cs)(h:aH s.er):aH (dh d b s).2.er:=by
 refine Cs.text_erN _ _ _ (Cs.text_erN _ _ _ ?_);cases d;· exact h
 · ((try dsimp only);exact Cs.byte_erN _ _ (Cs.num_erN _ _ h))
theorem J9(d:Bool)(b:List UInt8):∀ f s e,aH s.er->aH (iN d b f s e).2:=by
 intro f
 induction f with
 | zero=>intro s e h;exact h
 | succ f m=>
  intro s e h;rw [iN];split;· ((try dsimp only);exact dW)
  · split;· ((try dsimp only);exact m _ _ (Bk d b s h))
    · ((try dsimp only);exact Bk d b s h)
theorem wO(d:Bool)(b:List UInt8):aH (dS d b).2:=J9 _ _ _ _ _ dW
theorem Lc(x:List UInt8)(i:Nat):aH (eW x i).2:=by
 unfold eW;split
 · split
   · split;· ((try dsimp only);exact aO (by decide))
     · ((try dsimp only);exact wO _ _)
   · ((try dsimp only);exact wO _ _)
 · ((try dsimp only);exact Ec _)
theorem Le(x:List UInt8):∀ k i d,aH (kN x k i d).2:=by
 intro k
 induction k with
 | zero=>intro i d;exact dW
 | succ k e=>
  intro i d;rw [kN];split;· ((try dsimp only);exact e _ _)
  · ((try dsimp only);exact Lc _ _)
theorem KS(b:List UInt8):aH (ib b):=by
 unfold ib;split
 · split
   · unfold jH;split
     · split;· ((try dsimp only);exact aO (by decide))
       · split <;> ((try dsimp only);exact aO (by decide))
     · ((try dsimp only);exact Le _ _ _ _)
   · unfold jh;split;· split <;> ((try dsimp only);exact aO (by decide))
     · refine Cs.int_erN _ _ _ (Cs.int_erN _ _ _ ?_);have d:aH (gH (be b).1).2.er:=Cs.byte_erN _ _ (Cs.int_erN _ _ _ dW);unfold pF;split;· ((try dsimp only);exact Cs.fail_erN _ _ d (aO (by decide)))
       · exact d
 · unfold be;split
   · split
     · split;· split <;> ((try dsimp only);exact aO (by decide))
       · ((try dsimp only);exact qX _)
     · ((try dsimp only);exact aO (by decide))
   · ((try dsimp only);exact xM _)
theorem Ny(B:eY)(k:Nat):aH (gJ B k).2:=by
 unfold gJ;split
 · split;· ((try dsimp only);exact aO (by decide))
   · split;· split <;> ((try dsimp only);exact aO (by decide))
     · ((try dsimp only);exact wO _ _)
 · ((try dsimp only);exact Ec _)
theorem Mo(B:eY):∀ n k d,aH (kP B n k d).2:=by
 intro n
 induction n with
 | zero=>intro k d;exact dW
 | succ n e=>
  intro k d;rw [kP];split;· ((try dsimp only);exact e _ _)
  · ((try dsimp only);exact Ny _ _)
theorem Cr(B:eY):aH (gr B).2:=by
 unfold gr;split
 · split
   · split;· ((try dsimp only);exact dW)
     · ((try dsimp only);exact .inr (.inr (.inr rfl)))
   · ((try dsimp only);exact aO (by decide))
 · ((try dsimp only);exact Mo _ _ _ _)
theorem Cq(B:eY)(h:(gr B).2=0):fZ (gr B).1=true:=by
 unfold gr at h ⊢;split at h
 · rename_i d;rw [ag d];split at h
   · rename_i e;rw [ag e];split at h;· rename_i m;rw [ag m];exact e
     · cases h
   · cases h
 · rename_i d;exact absurd h d
theorem La(x:List UInt8)(h:(jH x).2=0):fZ (jH x).1=true:=by
 unfold jH at h ⊢;split at h
 · rename_i d;rw [ag d];split at h;· cases h
   · rename_i m;rw [ae m];split at h;· rename_i e;rw [ag e];exact e
     · cases h
 · rename_i d;exact absurd h d
theorem BG(o:dN)(b:List UInt8):aH (fY o b):=by
 unfold fY;split;· ((try dsimp only);exact KM _ _)
 · ((try dsimp only);exact aO (by decide))
theorem JI(k m c:Nat)(l:List UInt8):∀ f s d e,aH (fj k m c l f s d e).1:=by
 intro f
 induction f with
 | zero=>intro s d e;exact dW
 | succ f o=>
  intro s d e;unfold fj;by_cases h:(eT k m c l (s*((k+m)*(c+4)))).1=0;· simp only [h,mA];((try dsimp only);exact o _ _ _)
  · simp only [h,if_false];unfold eT;simp only;split;· ((try dsimp only);exact .inr (.inl rfl))
    · split <;> ((try dsimp only);exact aO (by decide))
theorem PP(b:List UInt8):aH (bw b).1:=by
 unfold bw;split;· ((try dsimp only);exact aO (by decide))
 · split;· ((try dsimp only);exact aO (by decide))
   · split;· ((try dsimp only);exact aO (by decide))
     · split;· ((try dsimp only);exact aO (by decide))
       · split;· ((try dsimp only);exact dW)
         · show aH (fF b).1;unfold fF fi;split;· ((try dsimp only);exact .inr (.inr (.inl rfl)))
           · split;· ((try dsimp only);exact aO (by decide))
             · split;· ((try dsimp only);exact aO (by decide))
               · split;· ((try dsimp only);exact aO (by decide))
                 · simp only;split;· split <;> ((try dsimp only);exact aO (by decide))
                   · ((try dsimp only);exact JI _ _ _ _ _ _ _ _)
theorem FP(b:List UInt8):aH (bo b).2:=by
 unfold bo;split;· ((try dsimp only);exact dW)
 · split;· ((try dsimp only);exact dW)
   · split;· ((try dsimp only);exact aO (by decide))
     · ((try dsimp only);exact xM _)
end Go.Proofs.YtfpijnhhdfoohaaGreatDoor
namespace Go.Proofs.YtfpijnhhdfoohaaGreatDoor
open Go.RowKit Go.Fk
def ot(b:List UInt8):List UInt8 × Cs:=(⟨0,0⟩:Cs).take b 5
def je(b:List UInt8):Nat × Cs:=(ot b).2.int b 32768
def gW(b:List UInt8):Nat × Cs:=(je b).2.byte b
def mI(b:List UInt8):Cs:=if 1<(gW b).1 then(gW b).2.fail 2 else(gW b).2
def iK(b:List UInt8):Nat × Cs:=(mI b).int b 64
def gC(b:List UInt8):List UInt8 × Cs:=(iK b).2.take b 4
def dH(b:List UInt8):dN:=⟨((je b).1:Int),decide ((gW b).1=1),((iK b).1:Int),0,0,0⟩
def ly(b:List UInt8):Nat:=if(gC b).2.er=0 then(if bP (b.take (gC b).2.at_)=0 then(if gF (dH b)then 0 else 9)else bP (b.take (gC b).2.at_))else(gC b).2.er
def jC(b:List UInt8):Nat:=if(gC b).2.er=0 then(if bP (b.take (gC b).2.at_)=0 then(gC b).2.at_ else 0)else 0
def gV(b:List UInt8):Nat:=if(bh b).2=0 then(if(bh b).1=2 then(if ly b=0 then fY (dH b) (b.drop (jC b))else ly b)else 4)else(bh b).2
def iu(b:List UInt8):eY:=iP (iK b).1 (b.drop (jC b))
def is(b:List UInt8):Nat:=if gV b=0 then(gr (iu b)).2 else gV b
def gB(b:List UInt8):Nat:=if dV b=0 then(gr (gZ b)).2 else dV b
theorem Aq(b:List UInt8):(gC b).2.at_<=b.length:=by
 have d:(gW b).2.at_<=b.length:=Cs.take_le _ _ _ (Cs.int_le _ _ _ (Cs.take_le _ _ _ (an _)));have e:(mI b).at_<=b.length:=by
  unfold mI;split
  · unfold Cs.fail;split;· exact d
    · exact d
  · exact d
 exact Cs.take_le _ _ _ (Cs.int_le _ _ _ e)
theorem Hl(b:List UInt8):jC b<=b.length:=by
 unfold jC;split
 · split;· exact Aq b
   · exact an _
 · exact an _
theorem Hm(b:List UInt8):aH (ly b):=by
 have d:aH (gW b).2.er:=Cs.byte_erN _ _ (Cs.int_erN _ _ _ (Cs.take_erN _ _ _ dW));have e:aH (mI b).er:=by
  unfold mI;split;· ((try dsimp only);exact Cs.fail_erN _ _ d (aO (by decide)))
  · exact d
 unfold ly;split
 · split;· split <;> ((try dsimp only);exact aO (by decide))
   · ((try dsimp only);exact qX _)
 · ((try dsimp only);exact Cs.take_erN _ _ _ (Cs.int_erN _ _ _ e))
theorem Hk(b:List UInt8):aH (gV b):=by
 unfold gV;split
 · split
   · split;· ((try dsimp only);exact BG _ _)
     · ((try dsimp only);exact Hm _)
   · ((try dsimp only);exact aO (by decide))
 · ((try dsimp only);exact xM _)
theorem Gv(b:List UInt8):aH (is b):=by
 unfold is;split;· ((try dsimp only);exact Cr _)
 · ((try dsimp only);exact Hk _)
theorem KK(b:List UInt8):aH (dV b):=by
 unfold dV;split;· ((try dsimp only);exact BG _ _)
 · ((try dsimp only);exact PP _)
theorem GS(b:List UInt8):aH (gB b):=by
 unfold gB;split;· ((try dsimp only);exact Cr _)
 · ((try dsimp only);exact KK _)
abbrev pe(B d:Nat)(p:Bool)(e:Nat):Obj:=.cells #[.pointer (some ⟨B,0,none⟩),N d,.bool p,N e,.int .i64 0,.int .i64 0,.int .i64 0] 135 (0,0)
theorem Hj(F B base:Nat)(v:Value)(b:List UInt8)(J w:World)(hs:ai J eB v b)(cn:Fr J w)(fN:J.heap.size<=B)(fP:J.heap.size<=F)(hG:w.heap[F]?=some (pe B 0 false 0))(hc:ar w 130 B base b 0 0)(A:F≠B)(hl:b.length<=1000000)(hb:base<=w.heap.size)(ht:bK J) :
  Calls Tryz.prog 87 #[.pointer (some ⟨F,0,none⟩),v] w fun e d=>e=.returned (.tuple #[N (jC b),.int .i64 (ly b:Int)])/\d.heap[F]?=some (pe B (je b).1 (decide ((gW b).1=1)) (iK b).1)/\Fr J d:=by
 have bl:=ad (fun k s W (h:ar W 130 B base b s.at_ s.er) D=>sX B base k s b W h hl D);have bm:Hid (∀ (L:Nat) (s:Cs) W,L<9223372036854775808->ar W 130 B base b s.at_ s.er->Calls Tryz.prog 81 #[.pointer (some ⟨B,0,none⟩),N L] W fun e d=>e=.returned (N (s.int b L).1)/\ar d 130 B base b (s.int b L).2.at_ (s.int b L).2.er/\ah (fun b=>b=B) W d):=fun L s W hm h=>nR L hm B base s b W h hl;have H0:Hid (∀ W,ar W 130 B base b 0 0->base<=W.heap.size->Calls Tryz.prog 119 #[.pointer (some ⟨B,0,none⟩),N 5] W fun e d=>∃ u,e=.returned u/\Ow d W.heap.size eB u (ot b).1/\ar d 130 B base b (ot b).2.at_ (ot b).2.er/\ah (fun b=>b=B) W d):=fun W h D=>bl.out 5 ⟨0,0⟩ W h D;have H1:Hid (∀ W,ar W 130 B base b (ot b).2.at_ (ot b).2.er->Calls Tryz.prog 81 #[.pointer (some ⟨B,0,none⟩),N 32768] W fun e d=>e=.returned (N (je b).1)/\ar d 130 B base b (je b).2.at_ (je b).2.er/\ah (fun b=>b=B) W d):=fun W h=>bm.out 32768 (ot b).2 W (by decide) h;have H2:Hid (∀ W,ar W 130 B base b (je b).2.at_ (je b).2.er->base<=W.heap.size->Calls Tryz.prog 82 #[.pointer (some ⟨B,0,none⟩)] W fun e d=>e=.returned (.int .u8 ((gW b).1:Int))/\ar d 130 B base b (gW b).2.at_ (gW b).2.er/\ah (fun b=>b=B) W d):=fun W h D=>tf B base (je b).2 b W h hl D;have H3:=ad (fun s W (h:ar W 130 B base b s.at_ s.er)=>pY 2 B base s b W h);have H4:Hid (∀ W,ar W 130 B base b (mI b).at_ (mI b).er->Calls Tryz.prog 81 #[.pointer (some ⟨B,0,none⟩),N 64] W fun e d=>e=.returned (N (iK b).1)/\ar d 130 B base b (iK b).2.at_ (iK b).2.er/\ah (fun b=>b=B) W d):=fun W h=>bm.out 64 (mI b) W (by decide) h;have H5:Hid (∀ W,ar W 130 B base b (iK b).2.at_ (iK b).2.er->base<=W.heap.size->Calls Tryz.prog 119 #[.pointer (some ⟨B,0,none⟩),N 4] W fun e d=>∃ u,e=.returned u/\Ow d W.heap.size eB u (gC b).1/\ar d 130 B base b (gC b).2.at_ (gC b).2.er/\ah (fun b=>b=B) W d):=fun W h D=>bl.out 4 (iK b).2 W h D;have cs:=ad (fun n X W (h:ar W 130 B base b n X)=>iE B base n X b W h);have a1:=ad (fun n X W (h:ar W 130 B base b n X)=>qb B base n X b W h);have ct:=Aq b;have b0:=ad (fun W (h:Fr J W) v' (D:ai W eB v' (b.take (gC b).2.at_))=>oQ v' _ W D (by rw [aG];omega) (ht.fr h));have HS:=ad hs;have O:Hid (mI b=if 1<(gW b).1 then(gW b).2.fail 2 else(gW b).2):=rfl;have hx:(gW b).1<256:=kF _;have eq:(je b).1<=32768:=Cs.int_top _ _ _;have es:(iK b).1<=64:=Cs.int_top _ _ _;have Y:Hid (ly b=if(gC b).2.er=0 then(if bP (b.take (gC b).2.at_)=0 then(if gF (dH b)then 0 else 9)else bP (b.take (gC b).2.at_))else(gC b).2.er):=rfl;have Z:Hid (jC b=if(gC b).2.er=0 then(if bP (b.take (gC b).2.at_)=0 then(gC b).2.at_ else 0)else 0):=rfl;have HO:=ad (fun W=>EB (dH b) ⟨rfl,rfl,rfl⟩ W);have cu:Hid (cS (dH b)=.agg #[N (je b).1,.bool (decide ((gW b).1=1)),N (iK b).1,.int .i64 0,.int .i64 0,.int .i64 0]):=rfl;rw [cu.out]at HO;have fQ:=hc.lt;obtain⟨a0,ga,rfl,gb,ev,_⟩:=hs.shape;unfold maxLen at ev;have cF:=af hG 0 rfl;have b1:=ad (H0.out w hc hb);clear hs hc bm bl H0 cu;generalize ly b=E at *;generalize jC b=NN at *;generalize mI b=sC at *;generalize gF (dH b)=OK at *;generalize ot b=RA at *;generalize je b=RB at *;generalize gW b=RP at *;generalize iK b=RU at *;generalize gC b=RT at *;obtain⟨xa,sA⟩:=RA;obtain⟨z,sB⟩:=RB;obtain⟨K,sP⟩:=RP;obtain⟨xu,sU⟩:=RU;obtain⟨xt,sT⟩:=RT;simp only at H1 H2 H4 H5 O Y Z HO b1 hx eq es ct b0;go_enter Tryz.func87, Tryz.ntmps87;go_wp2_with fail;refine(b1.out).mono ?_;rintro e w1 ⟨u1,rfl,_,c1,b2⟩;have b3:=b2.heap hG A;have c4:=ad (H1.out w1 c1);have e1:=af b3 0 rfl;clear b1 H1 c1 cF hG;go_wp2_with fail;refine(c4.out).mono ?_;rintro e w2 ⟨rfl,c6,b4⟩;have ak:=b4.heap b3 A;have z2:=al ak 1;have d2:=af ak 1 rfl;have m:=ao w2 ⟨F,1,none⟩ (N z);have b5:(w2.setCell ⟨F,1,none⟩ (N z)).heap[F]?=some (pe B z false 0):=a8 ak 1 _;have c8:=c6.box ak (by decide) (fy A) m;have b6:ah (fun k=>k=B\/k=F) w (w2.setCell ⟨F,1,none⟩ (N z)):=((b2.trans b4 (fun _ _ h=>h)).mono (G':=fun k=>k=B\/k=F) (fun k hk h=>.inl h)).trans m (fun _ _ h=>.inr h);have cA:base<=(w2.setCell ⟨F,1,none⟩ (N z)).heap.size:=az hb b6.size;clear c6 b2 b4 c4 m e1 b3;go_upto_region 3 with fail;generalize w2.setCell ⟨F,1,none⟩ (N z)=W3 at *;clear z2 d2 ak;have c3:=af b5 0 rfl;have cB:=ad (H2.out W3 c8 cA);clear H2 c8 cA;go_wp2_with fail;refine(cB.out).mono ?_;rintro e w4 ⟨rfl,a2,b7⟩;have a3:=b7.heap b5 A;have b8:=b6.trans b7 (fun _ _ h=>.inl h);clear cB c3 b5 b6 b7;have a4:((K:Int) == 1)=decide (K=1):=by rw [show((K:Int) == 1)=decide ((K:Int)=1)from rfl];exact vk.2 ⟨fun h=>by omega,fun h=>by omega⟩
 have fe:=ad a4;clear a4;go_upto_if 30 with fail;go_cut []from 30 to 35 (fun wx=>wx.heap[F]?=some (pe B z false 0)/\ar wx 130 B base b sC.at_ sC.er/\ah (fun k=>k=B\/k=F) w wx)
 case first=>
  by_cases o:1<K;· have bA:=ad (O.out.trans (ag o));have cE:=ad (H3.out sP w4 a2);have j1:(1:Int)<K:=(by omega);have c2:=af a3 0 rfl;clear O o a2;go_wp2_with fail;refine(cE.out).mono ?_;rintro e w5 ⟨rfl,a5,cG⟩;have M:=cG.heap a3 A;clear cE;go_wp2_with fail;go_meet;rw [bA.out];exact⟨M,a5,b8.trans cG fun _ _ h=>.inl h⟩
  · have bA:=ad (O.out.trans (ae o));have j1:¬(1:Int)<K:=(by omega);clear O o;go_wp2_with fail;go_meet;rw [bA.out];exact⟨a3,a2,b8⟩
 case rest=>
  obtain⟨M,a5,cL⟩:=hcut;clear a3 a2 b8 O H3;have a4:=fe.out;have z4:=al M 2;have d4:=af M 2 rfl;generalize cN:decide (K=1)=Q at *;have bB:=ad cN;clear cN;have m:=ao wc ⟨F,2,none⟩ (.bool Q);have bL:(wc.setCell ⟨F,2,none⟩ (.bool Q)).heap[F]?=some (pe B z Q 0):=a8 M 2 _;have cR:=a5.box M (by decide) (fy A) m;have cT:=cL.trans m (fun _ _ h=>.inr h);go_upto_region 7 with fail;generalize wc.setCell ⟨F,2,none⟩ (.bool Q)=W6 at *;clear z4 d4 M a5 cL m a4;have c5:=af bL 0 rfl;have da:=ad (H4.out W6 cR);clear H4 cR;go_wp2_with fail;refine(da.out).mono ?_;rintro e w7 ⟨rfl,dc,bT⟩;have ap:=bT.heap bL A;have z6:=al ap 3;have d6:=af ap 3 rfl;have m:=ao w7 ⟨F,3,none⟩ (N xu);have ca:(w7.setCell ⟨F,3,none⟩ (N xu)).heap[F]?=some (pe B z Q xu):=a8 ap 3 _;have dj:=dc.box ap (by decide) (fy A) m;have cb:=(cT.trans bT (fun _ _ h=>.inl h)).trans m (fun _ _ h=>.inr h);clear da c5 bL dc bT cT m;go_upto_region 8 with fail;generalize w7.setCell ⟨F,3,none⟩ (N xu)=W8 at *;clear z6 d6 ap;have c7:=af ca 0 rfl;have dr:=ad (H5.out W8 dj (az hb cb.size));clear H5 dj;go_wp2_with fail;refine(dr.out).mono ?_;rintro e w9 ⟨u9,rfl,_,a7,cc⟩;have aC:=cc.heap ca A;have ds:=cb.trans cc (fun _ _ h=>.inl h);have av:Fr J w9:=ah.below cn ds cn.size (fun i e=>by rcases e with e | e <;> omega);have c9:=af aC 0 rfl;have ba:=ad (cs.out _ _ w9 a7);clear cs dr c7 ca cb cc ds;by_cases R:sT.er=0
  · have cf:((sT.er:Nat):Int)=0:=(by omega);have U:=ad (Y.out.trans (ag R));have V:=ad (Z.out.trans (ag R));rw [cf]at ba;obtain⟨g4,dv⟩:=gD eB 22 Tryz.underlying22 (HS.out.fr av) sT.at_ ct;have d0:=ad (a1.out _ _ w9 a7);have d1:=ad (b0.out w9 av _ dv);clear Y Z R cf b0 dv;generalize bP (b.take sT.at_)=ec at *;go_wp2_with fail;refine(ba.out).mono ?_;rintro e d3 ⟨rfl,rfl⟩;clear ba;go_wp2_with fail;refine(d0.out).mono ?_;rintro e d3 ⟨rfl,rfl⟩;clear d0;go_wp2_with fail;refine(d1.out).mono ?_;rintro e q ⟨g5,rfl,d5,cj⟩;obtain⟨p6,z6,rfl⟩:=d5.shape';have G:=cj.heap aC;have d7:=av.trans cj;have f2:=a7.fr cj;clear d1 d5 aC c9 a7 av;by_cases o:ec=0
    · have ck:=ad (U.out.trans (ag o));have cl:=ad (V.out.trans (ag o));have cm:((ec:Nat):Int)=0:=(by omega);rw [cm];have q0:=af G 0 rfl;have q1:=af G 1 rfl;have q2:=af G 2 rfl;have q3:=af G 3 rfl;have q4:=af G 4 rfl;have q5:=af G 5 rfl;have q6:=af G 6 rfl;have fC:=ad (a1.out _ _ q.drew (f2.fr (Fr.refl q).drew));have d8:=ad (HO.out q.drew);have fD:Hid ((if OK=true then(0:Int)else 9)=(E:Int)):=(by show _=_;rw [ck.out];cases OK <;> rfl);rw [fD.out]at d8;clear U V o cm a1 HO;go_wp2_with fail
      go_region_held3 (fun W => W.cell? ⟨F, 0, none⟩ = some (.pointer (some ⟨B, 0, none⟩)) ∧ W.cell? ⟨F, 1, none⟩ = some (N z) ∧ W.cell? ⟨F, 2, none⟩ = some (.bool Q) ∧ W.cell? ⟨F, 3, none⟩ = some (N xu) ∧ W.cell? ⟨F, 4, none⟩ = some (.int .i64 0) ∧ W.cell? ⟨F, 5, none⟩ = some (.int .i64 0) ∧ W.cell? ⟨F, 6, none⟩ = some (.int .i64 0))
       (first | go_keep)
       ((first
        | (go_at_call 121; refine (fC.out).mono ?_; rintro e g8 ⟨rfl, rfl⟩)
        | (go_at_call 28; refine (d8.out).mono ?_; rintro e g9 ⟨rfl, I⟩; have r0 := I.cell (show q.drew.cell? _ = _ from q0); have r1 := I.cell (show q.drew.cell? _ = _ from q1); have r2 := I.cell (show q.drew.cell? _ = _ from q2); have r3 := I.cell (show q.drew.cell? _ = _ from q3); have r4 := I.cell (show q.drew.cell? _ = _ from q4); have r5 := I.cell (show q.drew.cell? _ = _ from q5); have r6 := I.cell (show q.drew.cell? _ = _ from q6))))
      go_wp2_with fail;go_ret2;rw [cl.out,bB.out];exact⟨rfl,I.heap G,d7.trans ((Fr.refl q).drew.trans I)⟩
    · have ck:=ad (U.out.trans (ae o));have cl:=ad (V.out.trans (ae o));have cm:¬((ec:Nat):Int)=0:=(by omega);clear U V o a1 HO;go_wp2_with fail;go_ret2;rw [ck.out,cl.out,bB.out];exact⟨rfl,G,d7⟩
  · have cf:¬((sT.er:Nat):Int)=0:=(by omega);have U:=ad (Y.out.trans (ae R));have V:=ad (Z.out.trans (ae R));clear Y Z R;go_wp2_with fail;refine(ba.out).mono ?_;rintro e d3 ⟨rfl,rfl⟩;go_wp2_with fail;go_ret2;rw [U.out,V.out,bB.out];exact⟨rfl,aC,av⟩
end Go.Proofs.YtfpijnhhdfoohaaGreatDoor
