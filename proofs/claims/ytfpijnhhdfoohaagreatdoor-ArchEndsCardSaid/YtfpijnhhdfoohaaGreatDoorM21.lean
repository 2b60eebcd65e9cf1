/- Parts of the proof of ArchEnds: K3 H1 H2 K6 U4 U5 M5 M6 M7 Mr1 Mr4. -/
import Derived.Test.YtfpijnhhdfoohaaGreatDoorM15
import Derived.Test.YtfpijnhhdfoohaaGreatDoorM12
import Derived.Test.YtfpijnhhdfoohaaGreatDoorM00
import Derived.Test.YtfpijnhhdfoohaaGreatDoorM11
import Derived.Test.YtfpijnhhdfoohaaGreatDoorM06
import Derived.Test.YtfpijnhhdfoohaaGreatDoorM10
import Derived.Test.YtfpijnhhdfoohaaGreatDoorM14
import Derived.Test.YtfpijnhhdfoohaaGreatDoorM16
set_option linter.unusedVariables false
set_option linter.unusedSectionVars false
set_option linter.unusedSimpArgs false
set_option maxHeartbeats 8000000
set_option maxRecDepth 100000
namespace Go.Fk
abbrev mFQb:=@List.drop_drop
end Go.Fk
namespace Go.Proofs.YtfpijnhhdfoohaaGreatDoor
open Go.RowKit Go.Fk
abbrev qU(d:List UInt8)(s:Nat):Nat->Int:=fun l=>((if l=0 then 0 else bM d l s:Nat):Int)
theorem Fo:(#[.int .i64 0,.int .i64 0,.int .i64 0,.int .i64 0,.int .i64 0,.int .i64 0,.int .i64 0,.int .i64 0,.int .i64 0,.int .i64 0,.int .i64 0,.int .i64 0,.int .i64 0,.int .i64 0,.int .i64 0,.int .i64 0,.int .i64 0]:Array Value)=bG 17 (fun _=>0):=rfl
theorem Gr(x:Nat):IntKind.u16.wrap (x:Int)=((x % 65536:Nat):Int):=by
 simp only [IntKind.wrap,IntKind.bits,IntKind.signed];simp
theorem EQ (v : Value) (d : List UInt8) (w : World) (J : ai w eB v d) (hn : d.length ≤ 300) (a4 : ∀ c ∈ d, c.toNat ≤ 15) :
    Calls Tryz.prog 216 #[v] w fun e w'=>(cI d=true->∃ v',e=.returned (.tuple #[v',.int .i64 0])/\Ow w' w.heap.size eU v' (dK d))/\(cI d=false->e=.returned (.tuple #[.slice none 0 0,.int .i64 7]))/\Fr w w':=by
  obtain⟨a,bc,rfl,ds,bR,dv⟩:=J.shape;unfold maxLen at bR;have Y:=ad (uZ _ d w J hn a4);have bd:=ad (fun W h=>Dz (.slice a d.length bc) d W h hn a4);have a5:(bG 16 (dL d)).size=16:=pW _ _;have bf:=yM 16 (dL d);have bk:(Tryz.prog.info? 358).map (·.size)=some (bG 16 (dL d)).size:=by rw [a5];kernel_rfl
  cases bl:cI d with
  | false=>rw [bl]at Y;go_enter Tryz.func216, Tryz.ntmps216;go_wp2_with fail;refine Y.out.mono ?_;rintro e w1 ⟨rfl,Z⟩;go_wp2_with fail;go_ret2;exact⟨fun h=>by simp at h,fun _=>rfl,Z⟩
  | true=>
    rw [bl]at Y;go_enter Tryz.func216, Tryz.ntmps216;go_wp2_with fail;refine Y.out.mono ?_;rintro e w1 ⟨rfl,Z⟩;go_upto_region 4 with fail;have bs:=J.fr Z;have bu:=ad (bd.out w1 bs);have bv:∀ l,l<16->(bG 16 (dL d))[l]?=some (.int .i64 (dL d l)):=fun l h=>sQ 16 _ l h;have bx:=ad bv;clear bv bd Y;generalize bG 16 (dL d)=R at *;go_wp2_with fail;refine bu.out.mono ?_;rintro e o ⟨rfl,b0⟩;have G:(o.alloc (.cells (bG 16 (fun _=>0)) 358)).heap[o.heap.size]?=some (.cells (bG 16 (fun _=>0)) 358 (0,0)):=a9 _ _ _ rfl;have aj:Fr o (o.alloc (.cells (bG 16 (fun _=>0)) 358)):=(Fr.refl o).alloc _;rw [<- vK]at G aj;go_upto_region 5 with(refine bS rfl 358 (.tmp 5) (.tmp 20) rfl o.heap.size R rfl rfl 358 _ G bk (by rw [a5];rfl) bf ?_);have M:=cP _ o.heap.size _ R 358 (0,0) G;have b1:Fr o (World.setRow _ o.heap.size R):=ah.below aj (bC _ o.heap.size R) aj.size (fun k hk=>fO hk.symm);generalize ca:World.setRow _ o.heap.size R=D at *;clear ca G aj bf bk a5 bu;have O:=(Z.trans b0).trans b1;have hB:(D.alloc (.cells (bG 17 (fun _=>0)) 362)).heap[D.heap.size]?=some (.cells (bG 17 (fun _=>0)) 362 (0,0)):=a9 _ _ _ rfl;have Q:Fr D (D.alloc (.cells (bG 17 (fun _=>0)) 362)):=(Fr.refl D).alloc _;have ak:cV (D.alloc (.cells (bG 17 (fun _=>0)) 362)) D.heap.size 362 17 (fun j=>if j<=1 then((bn d j:Nat):Int)else 0):=by
      unfold cV; rw [hB, yN (f' := fun j => if j ≤ 1 then ((bn d j : Nat) : Int) else 0) fun j _ => by
        show (0 : Int) = _;by_cases h : j ≤ 1;· rw [ag h];have : j = 0 ∨ j = 1 := (by omega);rcases this with rfl | rfl <;> rfl
        · rw [ae h]]
    have h3:=Q.heap M;have d0:o.heap.size<D.heap.size:=(aM.1 M).1;rw [<- Fo]at Q ak h3;clear hB M;go_upto_region 6 with fail;generalize cb:D.alloc (.cells _ 362)=w4 at *;clear cb;have HN:Hid (∀ W,ah (fun k=>k=D.heap.size) w4 W->∀ l,l<16->W.cell? ⟨o.heap.size,l,none⟩=some (.int .i64 (dL d l))):=fun W h l hl=>by rw [aA (h.heap h3 (by omega))];exact bx.out l hl
    have ch:Hid (∀ W,ah (fun k=>k=D.heap.size) w4 W->ai W eB (.slice a d.length bc) d):=fun W h=>
      J.fr (ah.below (O.trans Q) h (O.trans Q).size (fun i hi=>by rw [hi];exact O.size))
    have a6:Fr w w4:=O.trans Q;have cj:=O.size;have ck:=ak.lt;have cm:=ad (fun l=>Da d l);have cp:=ad (fun l h=>uy d l h);have cq:=ad (fun l=>nL d l);clear bx h3 J bs Z b0 b1 O Q;generalize hg:D.heap.size=g at *;clear hg;go_wp2_with fail;go_loopw [8] (fun K wr=>∃ l:Nat,1<=l/\l<=16/\K=N l/\cV wr g 362 17 (fun j=>if j<=l then((bn d j:Nat):Int)else 0)/\ah (fun k=>k=g) w4 wr) (fun K _=>16 - (intOf K).toNat);case atStart=>exact⟨1,am _,by omega,rfl,ak,ah.refl _ _⟩
    case round=>
      clear ak;obtain⟨l,ct,d3,rfl,z,F⟩:=hrel;by_cases b3:l<16
      · have d4:(l:Int)<16:=(by omega);have e1:wr.cell? ⟨g,l,none⟩=some (.int .i64 ((bn d l:Nat):Int)):=z.cell' l (by omega) (ag (am _));have e2:wr.cell? ⟨o.heap.size,l,none⟩=some (.int .i64 ((aB d l:Nat):Int)):=(by have:=HN.out wr F l b3;rw [this];simp [dL];omega);have e3:=z.frozen (l+1);have e4:=z.cell (l+1) (by omega);have d6:bn d l<=40000000:=(by have M:=cm.out l;have U:(2:Nat) ^ (l+1)<=65536*2:=az (ep (by omega) (show l+1<=17 by omega)) (by decide);have h3:d.length*2 ^ (l+1)<=300*(65536*2):=bJ hn U;omega);have d7:=cq.out l;have b4:=ad (z.set (l+1) (((2*(bn d l+aB d l):Nat)):Int));have c3:Hid (cV (wr.setCell ⟨g,l+1,none⟩ (.int .i64 (((2*(bn d l+aB d l):Nat)):Int))) g 362 17 (fun j=>if j<=l+1 then((bn d j:Nat):Int)else 0)):=b4.out.congr fun j hj=>by
          show(if j=l+1 then _ else if j<=l then _ else _)=_;by_cases h:j=l+1;· subst h;rw [ag rfl,ag (am _),cp.out l ct]
          · rw [ae h];by_cases U:j<=l;· rw [ag U,ag (by omega)]
            · rw [ae U,ae (by omega)]
        clear b4;generalize bn d l=V at *;generalize aB d l=X at *;have i1:(0:Int)<=l:=(by omega);have i2:l<16:=b3;have i3:(0:Int)<=(l:Int)+1:=(by omega);have i4:(l:Int)+1<17:=(by omega);have i5:(l:Int)<17:=(by omega);have d8:IntKind.i64.wrap ((V:Int)+X)=((V+X:Nat):Int):=(by rw [aw _ (by omega)];omega);have d9:IntKind.i64.wrap (((V+X:Nat):Int)*2)=((2*(V+X):Nat):Int):=(by rw [aw _ (by omega)];omega);generalize c9:2*(V+X)=mu at *;generalize cB:V+X=su at *;have dT:mu<=90000000:=(by omega);have ec:o.heap.size≠g:=(by omega);clear c9 cB;go_upto_region 9 with fail;go_region;all_goals go_wp2_with fail
        all_goals go_roundw
        case rel=>exact⟨l+1,by omega,by omega,by go_num,c3.out.fr (Fr.drew (Fr.refl _)),F.trans ((ao wr ⟨g,l+1,none⟩ _).trans ((Fr.drew (Fr.refl _)).chg (fun k=>k=g)) (fun _ _ h=>h)) (fun _ _ h=>h)⟩
        case measure=>simp [intOf];omega
      · obtain rfl:l=16:=(by omega);have ef:¬(16:Int)<16:=(by omega);have a0:cV wr g 362 17 (qU d 0):=z.congr fun j hj=>by
          show(if j<=16 then _ else _)=_;rw [ag (by omega)];show((bn d j:Nat):Int)=((if j=0 then 0 else bM d j 0:Nat):Int);by_cases h:j=0;· subst h;rfl
          · rw [ae h,FT]
        have cE:=oE eU rfl rfl 231 Tryz.underlying231 .i64 .i64 d.length (by omega);have b5:=ad (pL (base:=w4.heap.size) eU rfl rfl d.length (by omega) wr F.size);have aC:Fr wr (wr.alloc (.cells (madeCells #[eU.z] d.length) eU.e)):=(Fr.refl wr).alloc _;have b6:=a0.fr aC;have b7:=F.trans (aC.chg (fun k=>k=g)) (fun _ _ h=>h);have eq:=F.size;have a1:=m7 d;have cF:=ad (fun s h=>uF d s h);have cG:=ad (fun l s h=>zV d l s h);have cL:=ad (fun l s h=>FU d l s h hn);rw [show(eU:au Tryz.prog Nat).e=235 from rfl]at *;generalize madeCells #[eU.z] d.length=T0 at *;go_wp2_with fail;generalize cR:wr.alloc (.cells T0 235)=w5 at *;clear cR aC z a0 F;generalize cT:wr.heap.size=q at *;clear cT;have b8:=b5.out;clear b5 cE;go_loopw [42] (fun K wr=>∃ s:Nat,s<=d.length/\K=N s/\cV wr g 362 17 (qU d s)/\Ow wr w4.heap.size eU (.slice (some ⟨q,0,none⟩) d.length d.length) ((dK d).take s++List.replicate (d.length - s) 0)/\ah (fun k=>k=g) w4 wr) (fun K _=>d.length - (intOf K).toNat);case atStart=>exact⟨0,an _,rfl,b6,by simp only [ld,kI,Nat.sub_zero];exact b8,b7⟩
        case round=>
          clear b6 b7 b8;obtain⟨s,J,rfl,z,L,F⟩:=hrel;by_cases I:s<d.length
          · obtain⟨b,es,ev,hv,c0⟩:=(ch.out wr F).cell1 (fun c=>Fk.u8 c) rfl s I;have e5:=a4 _ (bX I);have a2:=ad (cF.out s I);have aa:=ad (fun l=>cG.out l s I);have hz:d[s]=0↔d[s].toNat=0:=⟨fun e=>by rw [e];rfl,fun e=>eA.1 (by simpa using e)⟩;generalize d[s]=c at *;cases hv;have bA:((dK d).take s++List.replicate (d.length - s) 0).length=d.length:=uA _ _ _ _ a1 J;have a3:=ad (fun x hx=>uz (dK d) 0 d.length s a1 I x hx);generalize e6:c.toNat=m at *;have i1:(0:Int)<=s:=(by omega);have i2:(s:Int)<d.length:=(by omega);by_cases ab:m=0
            · have di:¬(0:Int)<m:=(by omega);have a0:cV wr g 362 17 (qU d (s+1)):=z.congr fun j hj=>by
                show((if j=0 then 0 else bM d j s:Nat):Int)=((if j=0 then 0 else bM d j (s+1):Nat):Int);by_cases h:j=0;· rw [ag h,ag h]
                · rw [ae h,ae h,aa.out j,ae (by omega)];rfl
              have ba:Hid (Ow wr w4.heap.size eU (.slice (some ⟨q,0,none⟩) d.length d.length) ((dK d).take (s+1)++List.replicate (d.length - (s+1)) 0)):=(by have M:=a3.out 0 (by rw [a2.out,ag (hz.2 ab)]);show Ow _ _ _ _ _;rw [<- M];have U:((dK d).take s++List.replicate (d.length - s) 0).set s 0=(dK d).take s++List.replicate (d.length - s) 0:=(by rw [zj _ _ (by rw [aG];omega),show d.length - s=(d.length - (s+1))+1 by omega,zk];have:s - ((dK d).take s).length=0:=(by rw [aG];omega);rw [this];rfl);rw [U];exact L);clear a3 a2 aa L z;subst ab;go_wp2_with fail;go_roundw;case rel=>exact⟨s+1,by omega,by go_num,a0,ba.out,F⟩
              case measure=>simp [intOf];omega
            · have di:(0:Int)<m:=(by omega);have e7:=cL.out m s (by omega);have e1:wr.cell? ⟨g,m,none⟩=some (.int .i64 ((bM d m s:Nat):Int)):=z.cell' m (by omega) (by simp [qU,ab]);have e2:=z.frozen m;obtain⟨d1,d2⟩:=L.cellAt (fun n:Nat=>Value.int .u16 (n:Int)) rfl s (by rw [bA];exact I);have bb:=ad (L.set (fun n:Nat=>Value.int .u16 (n:Int)) rfl s (by rw [bA];exact I) (bM d m s % 65536) (.int .u16 ((bM d m s % 65536:Nat):Int)) rfl);have bB:(dK d)[s]'(by rw [a1];exact I)=bM d m s % 65536:=(by rw [a2.out,ae (fun e=>ab (hz.1 e))]);rw [a3.out _ bB]at bb;have bL:=ad ((z.chg (ao wr ⟨q,s,none⟩ (.int .u16 ((bM d m s % 65536:Nat):Int))) (by show ¬g=q;omega)).set m (((bM d m s:Nat):Int)+1));have dj:Hid (cV ((wr.setCell ⟨q,s,none⟩ (.int .u16 ((bM d m s % 65536:Nat):Int))).setCell ⟨g,m,none⟩ (.int .i64 (((bM d m s:Nat):Int)+1))) g 362 17 (qU d (s+1))):=bL.out.congr fun j hj=>by
                show(if j=m then _ else((if j=0 then 0 else bM d j s:Nat):Int))=((if j=0 then 0 else bM d j (s+1):Nat):Int);by_cases h:j=m;· rw [ag h,ae (by omega),aa.out j,ag h.symm,h];rfl
                · rw [ae h];by_cases G:j=0;· rw [ag G,ag G]
                  · rw [ae G,ae G,aa.out j,ae (fy h)];rfl
              have ba:=ad (dx (r:=g) (i:=m) (u:=.int .i64 (((bM d m s:Nat):Int)+1)) bb.out ck)
              have dr:Hid (ah (fun k=>k=g) w4 ((wr.setCell ⟨q,s,none⟩ (.int .u16 ((bM d m s % 65536:Nat):Int))).setCell ⟨g,m,none⟩ (.int .i64 (((bM d m s:Nat):Int)+1)))):=
                (F.trans (ao wr ⟨q,s,none⟩ _) (fun i hi e=>by exfalso;have:i=q:=e;omega)).trans (ao _ ⟨g,m,none⟩ _) (fun _ _ h=>h)
              have hu:=Gr (bM d m s)
              have e3:(wr.setCell ⟨q,s,none⟩ (.int .u16 ((bM d m s % 65536:Nat):Int))).cell? ⟨g,m,none⟩=some (.int .i64 ((bM d m s:Nat):Int)):=
                ((z.chg (ao wr ⟨q,s,none⟩ (.int .u16 ((bM d m s % 65536:Nat):Int))) (by show ¬g=q;omega))).cell' m (by omega) (by simp [qU,ab])
              clear bb bL a3 aa a2 z L F bB;generalize bM d m s % 65536=vm at *;generalize bM d m s=vv at *;have i3:(0:Int)<=m:=(by omega);have i4:(m:Int)<17:=(by omega);have i5:m<17:=(by omega);have i6:q≠g:=(by omega);have i7:g≠q:=(by omega);go_wp2_with fail;go_roundw;case rel=>exact⟨s+1,by omega,by go_num,dj.out,ba.out,dr.out⟩
              case measure=>simp [intOf];omega
          · obtain rfl:s=d.length:=(by omega);have fh:¬(d.length:Int)<d.length:=(by omega);have e:(dK d).take d.length++List.replicate (d.length - d.length) 0=dK d:=(by rw [gu,vz,gq,<- a1,dO]);rw [e]at L;go_wp2_with fail;go_ret2;refine⟨⟨_,rfl,L.rebase a6.size⟩,ah.below a6 F a6.size (fun i hi=>by rw [hi];exact cj)⟩
structure df (w:World) (base g:Nat) (lens:List UInt8) (s:Nat) (c:Nat->Value):Prop where
 arr:fd w g 288 50 c
 own0:Ow w base eB (c 0) lens
 own1:Ow w base eU (c 1) (dK lens)
 first:∀ l,1<=l->l<16->c (2+l)=N (fM lens s l)
 many:∀ l,1<=l->l<16->c (18+l)=N (aB (lens.take s) l)
 syms:∀ l,1<=l->l<16->Ow w base eJ (c (34+l)) (sM lens s l)
 apart:∀ j k,1<=j->j<16->1<=k->k<16->j≠k->(c (34+j)).ownBlock=none\/(c (34+j)).ownBlock≠(c (34+k)).ownBlock
 up:base<=g
theorem Na{J w K w4:World}{base g s d:Nat}{q:List UInt8}{c c2:Nat->Value}{v':Value}(m:df w base g q s c)(hf:Fr J w)(aj:J.heap.size<=base)(hg:base<=g)(V:s<q.length)(X:q[s].toNat=d)(h1:1<=d)(h2:d<16)
  (hA:fd K g 288 50 c2) (hch:ah (fun k=>k=g) w K) (e1:c2 (2+d)=N (bn q d % 65536)) (e2:c2 (18+d)=N (aB (q.take s) d+1))
  (e3:∀ i,i≠2+d->i≠18+d->c2 i=c i) (hap:dg base eJ (sM q s d++[s]) K (c (34+d)) v' w4) :
  df (w4.setCell ⟨g,34+d,none⟩ v') base g q (s+1) (fun j=>if j=34+d then v' else c2 j)/\Fr J (w4.setCell ⟨g,34+d,none⟩ v'):=by
 have ap:=m.syms d h1 h2;have G:=ap.keepG m.arr (by decide) hch;have I:fd w4 g 288 50 c2:=hA.chg hap.chg' (fun e=>G.ne_cells hA (by decide) e);have L:ah (fun k=>k=g) w4 (w4.setCell ⟨g,34+d,none⟩ v'):=ao w4 ⟨g,34+d,none⟩ v';have a0:(c (34+d)).ownBlock≠some g:=G.ne_cells hA (by decide);refine⟨⟨I.set _ _,?_,?_,?_,?_,?_,?_,hg⟩,?_⟩;· rw [ae (by omega),e3 0 (by omega) (by omega)];have o:=m.own0.keepG m.arr (by decide) hch;exact(hap.other o (jg o G (by decide))).keepG I (by decide) L
 · rw [ae (by omega),e3 1 (by omega) (by omega)];have o:=m.own1.keepG m.arr (by decide) hch;exact(hap.other o (jg o G (by decide))).keepG I (by decide) L
 · intro l D F;rw [ae (by omega),De q s l V,X];by_cases e:l=d;· subst e;rw [ag rfl,e1]
   · rw [ae (fun h=>e h.symm),e3 _ (by omega) (by omega)];exact m.first l D F
 · intro l D F;rw [ae (by omega),nK q s l V,X];by_cases e:l=d;· subst e;rw [ag rfl,e2]
   · rw [ae (fun h=>e h.symm),e3 _ (by omega) (by omega)];exact m.many l D F
 · intro l D F;rw [tV q s l V,X];by_cases e:l=d;· subst e;rw [ag rfl,ag rfl];exact hap.own.keepG I (by decide) L
   · rw [ae (by omega),ae (fun h=>e h.symm),gq,e3 _ (by omega) (by omega)];have o:=(m.syms l D F).keepG m.arr (by decide) hch;exact(hap.other o (m.apart l d D F h1 h2 e)).keepG I (by decide) L
 · intro j k M O Q R Y;by_cases e:j=d
   · subst e;rw [ag rfl,ae (by omega),e3 _ (by omega) (by omega)]
     cases Z:v'.ownBlock with
     | none=>exact .inl rfl
     | some b=>
      refine .inr fun U=>?_;rcases hap.fresh b Z with h | h
      · rcases m.apart j k M O Q R Y with z | z;· rw [z]at h;cases h
        · exact z (h.trans U)
      · have o:=(m.syms k Q R).keepG m.arr (by decide) hch;have:=(o.lt b U.symm).2;omega
   · rw [ae (by omega),e3 _ (by omega) (by omega)];by_cases e':k=d
     · subst e';rw [ag rfl]
       cases Z:v'.ownBlock with
       | none=>
        cases a1:(c (34+j)).ownBlock with
        | none=>exact .inl rfl
        | some b=>exact .inr (by simp)
       | some b=>
        rcases hap.fresh b Z with h | h
        · rcases m.apart j k M O Q R Y with z | z;· exact .inl z
          · exact .inr (by rw [<- h];exact z)
        · refine .inr fun U=>?_;have o:=(m.syms j M O).keepG m.arr (by decide) hch;have:=(o.lt b U).2;omega
     · rw [ae (by omega),e3 _ (by omega) (by omega)];exact m.apart j k M O Q R Y
 · have o:Fr J K:=ah.below hf hch hf.size (fun i e=>by omega);exact ex (hap.below G o aj o.size) (by omega) (az o.size hap.size)
def ii(u v:Value)(i:Nat):Value:=if i=0 then u else if i=1 then v else if i<34 then N 0 else .slice none 0 0
theorem EI (v : Value) (d : List UInt8) (w : World) (Q : ai w eB v d) (hn : d.length ≤ 300) (b2 : ∀ c ∈ d, c.toNat ≤ 15) (cB : cI d = true) :
    Calls Tryz.prog 180 #[v] w fun e w'=>∃ g c,e=.returned (.tuple #[.pointer (some ⟨g,0,none⟩),.int .i64 0])/\df w' w.heap.size g d d.length c/\Fr w w':=by
  have HC:=ad (EQ _ d w Q hn b2);have HS:=ad (fun W (h:Fr w W)=>Q.fr h);obtain⟨a,cF,rfl,f0,cG,f1⟩:=Q.shape;unfold maxLen at cG;clear Q;have cL:=ad (fun W (h:ai W eB _ d)=>jT (.slice a d.length cF) d W h (by omega));go_enter Tryz.func180, Tryz.ntmps180;go_wp2_with fail;refine HC.out.mono ?_;rintro e w1 ⟨ht,_,R⟩;obtain⟨cv,rfl,b5⟩:=ht cB;obtain⟨ca,cc,b8⟩:=b5.shape';rw [m7]at b8;subst b8;have cR:=ad (cL.out w1 (HS.out w1 R));go_wp2_with fail;refine cR.out.mono ?_;rintro e z ⟨lv,rfl,b9,ab⟩;obtain⟨la,lc,cT⟩:=b9.shape';subst cT;go_wp2_with fail;go_loopw [25] (fun iv wr=>∃ (s:Nat) (c:Nat->Value),s<=d.length/\iv=N s/\df wr w.heap.size z.heap.size d s c/\Hid (c 0=.slice la d.length lc/\c 1=.slice ca d.length cc)/\Fr w wr) (fun iv _=>d.length - (intOf iv).toNat)
  case atStart=>
    refine⟨0,ii (.slice la d.length lc) (.slice ca d.length cc),an _,rfl,⟨?_,?_,?_,?_,?_,?_,?_,?_⟩,⟨rfl,rfl⟩,((R.trans ab).alloc _)⟩;· exact a9 _ _ _ rfl
    · exact(b9.rebase R.size).fr ((Fr.refl z).alloc _)
    · exact(b5.fr ab).fr ((Fr.refl z).alloc _)
    · intro l F G;rw [NP];unfold ii;rw [ae (by omega),ae (by omega),ag (by omega)]
    · intro l F G;rw [ld,qZ];unfold ii;rw [ae (by omega),ae (by omega),ag (by omega)]
    · intro l F G;rw [IY];unfold ii;rw [ae (by omega),ae (by omega),ae (by omega)];exact Ow.nil
    · intro j k F G _ _ _;unfold ii;rw [ae (by omega),ae (by omega),ae (by omega)];exact .inl rfl
    · exact az R.size ab.size
  case round=>
    obtain⟨s,c,da,rfl,D,U,M⟩:=hrel;by_cases I:s<d.length
    · obtain⟨b,dc,f5,hv,c0⟩:=nO (HS.out wr M) s I;have f6:=b2 _ (bX I);have hz:=ad (vV d[s]);have ap:=ad (fun l=>nK d s l I);have bL:=ad (fun l=>tV d s l I);have av:=ad (fun l=>De d s l I);have a0:=ad (NB d s I);have bR:=ad (N9 d s);generalize hc:d[s]=x at *;cases hv;replace c0:wr.cell? ⟨b,dc+s,none⟩=some (.int .u8 ((x.toNat:Nat):Int)):=c0;generalize a6:x.toNat=o at *;have i1:(0:Int)<=s:=(by omega);have i2:(s:Int)<d.length:=(by omega);by_cases hx:o=0
      · subst hx;have HN:Hid (df wr w.heap.size z.heap.size d (s+1) c):=by
          refine⟨D.arr,D.own0,D.own1,fun l F G=>?_,fun l F G=>?_,fun l F G=>?_,D.apart,D.up⟩;· rw [av.out,ae (by omega)];exact D.first l F G
          · rw [ap.out,ae (by omega)];exact D.many l F G
          · rw [bL.out,ae (by omega),gq];exact D.syms l F G
        clear ap bL av a0 bR hz a6;go_wp2_with fail;go_roundw;case rel=>exact⟨s+1,c,by omega,by go_num,HN.out,U,M⟩
        case measure=>simp [intOf];omega
      · have i3:(0:Int)<o:=(by omega);have i4:(o:Int)<16:=(by omega);have i5:¬(o:Int)=0:=(by omega);have V:o<16:=(by omega);have ds:x≠0:=fun e=>hx (hz.out.1 e);have aC:=ad D;have dv:=ad (show d[s].toNat=o by rw [hc,a6]);clear hz a6;obtain⟨K,bT,ba,hF,hM,cb,cf,d0⟩:=D;have fN:((o:Int) == 0)=false:=(by simp [hx]);have ch:c (18+o)=N (aB (d.take s) o):=hM o (by omega) V;have cj:c (2+o)=N (fM d s o):=hF o (by omega) V;have bc:=K.cell (18+o) (by omega) ch;have f2:=K.frozen (2+o);have k2:=K.cell (2+o) (by omega) cj;have bd:=ba.see;rw [U.out.2]at bd;have bf:s<(dK d).length:=(by rw [m7];exact I);obtain⟨b1,d4,cap1,ck,J⟩:=bd.cell1 (fun n=>Value.int .u16 (n:Int)) rfl s bf;have fP:=D6 d s bf;have d5:IntKind.i64.wrap (((dK d)[s]:Nat):Int)=(((dK d)[s]:Nat):Int):=aw _ (by omega);have bk:=ad (fun h=>a0.out ds h);generalize hq:(dK d)[s]=q at *;rw [m7]at ck;cases ck;replace J:wr.cell? ⟨b1,d4+s,none⟩=some (.int .u16 (q:Int)):=J;have fQ:=nL (d.take s) o;have fS:(d.take s).length<=300:=(by rw [aG];omega);have d7:=ad (ap.out o);have d8:=ad (av.out o);have bl:=ad (bR.out o);clear hq a0 bf;generalize hm:aB (d.take s) o=m at *;generalize fM d s o=f at *;have HA:=ad K;have HH:=ad (And.intro bT (And.intro ba (And.intro hF (And.intro hM (And.intro cb cf)))));have dT:=ad hm;clear bT ba hF hM cb cf bd hm;have ec:((m:Int) == 0)=decide (m=0):=(by by_cases h:m=0 <;> simp [h]);have cm:Hid (decide (m=0)=true->m=0):=fun h=>(by simpa using h);have cp:Hid (decide (m=0)=false->m≠0):=fun h=>(by simpa using h);generalize decide (m=0)=bm at *;go_upto_if 38 with fail;go_cut []from 39 to 48 (fun wx=>∃ J,fd wx z.heap.size 288 50 J/\J (2+o)=N (bn d o % 65536)/\(∀ i,i≠2+o->J i=c i)/\ah (fun k=>k=z.heap.size) wr wx)
        case first=>
          cases bm;· have bs:=ad (bl.out (cp.out (by first | rfl | trivial)));go_wp2_with fail;go_meet;exact⟨c,K,by rw [cj,bs.out],fun _ _=>rfl,ah.refl _ _⟩
          · have bs:=ad (bk.out (cm.out (by first | rfl | trivial)));clear bk d8 bl d7;go_wp2_with fail;go_region;all_goals go_wp2_with fail
            all_goals go_meet
            exact⟨_,(K.set (2+o) (.int .i64 (q:Int))).drew,by rw [ag rfl,bs.out],fun i hi=>ae hi,(ao wr ⟨_,2+o,none⟩ _).trans ((Fr.drew (Fr.refl _)).chg (fun k=>k=z.heap.size)) (fun _ _ h=>h)⟩
        case rest=>
          generalize er:wc=wd at *;clear er;obtain⟨J,X,es,O,cs⟩:=hcut;clear bk bl cm cp f2 k2 bc d5 ec;have ev:J (18+o)=N m:=(by rw [O _ (by omega),ch]);have bc:=X.cell (18+o) (by omega) ev;have e0:=X.frozen (18+o);have ga:IntKind.i64.wrap ((m:Int)+1)=((m+1:Nat):Int):=(by rw [aw _ (by omega)];omega);have Y:=ad ((X.set (18+o) (.int .i64 ((m:Int)+1))).drew);have bv:Hid (ah (fun k=>k=z.heap.size) wr (wd.setCell ⟨z.heap.size,18+o,none⟩ (.int .i64 ((m:Int)+1))).drew):=(cs.trans (ao wd ⟨_,18+o,none⟩ _) (fun _ _ h=>h)).trans ((Fr.drew (Fr.refl _)).chg (fun k=>k=z.heap.size)) (fun _ _ h=>h);go_upto_region 11 with fail;go_region;all_goals go_wp2_with fail
          generalize e1:(wd.setCell ⟨z.heap.size,18+o,none⟩ (.int .i64 ((m:Int)+1))).drew=L at *;clear e1 bc e0 X cs c0;have e2:=ad (fun c2 v' w4 a1 a2 a3 a4 (a5:fd L z.heap.size 288 50 c2)=>Na (w4:=w4) (v':=v') (c2:=c2) aC.out M (am _) d0 I dv.out (by omega) V a5 bv.out a1 a2 a3 a4);have ct:=aC.out.syms o (by omega) V;have cu:=wC d s o da;have eL:=nL (d.take s) o;have Z:=ct.keepG aC.out.arr (by decide) bv.out;obtain⟨sa,sc,bx⟩:=Z.shape';have c3:L.cell? ⟨z.heap.size,34+o,none⟩=some (c (34+o)):=Y.out.cell (34+o) (by omega) (by rw [ae (by omega),O _ (by omega)]);have hD:=Z.drew;have c4:w.heap.size<=L.heap.size:=az M.size bv.out.size;have fa:Hid (w.heap.size<=L.drew.heap.size):=c4;have c5:Fr L (L.alloc (.cells #[.int .i64 (s:Int)] 3)):=(Fr.refl L).alloc _;have fb:=c5.cell c3;have fc:Hid ((sM d s o).length+[s].length<=2147483648):=(by show _<=_;rw [cu];simp;omega);have c6:=Z.ne_cells Y.out (by decide);have fe:=Y.out;rw [bx]at hD c3 fb c6;have fh:=ad bx;generalize ge:sM d s o=m9 at *;clear c5 ct Z cu eL bx c4 HA HH K;go_upto_region 12 with fail
          go_region_law (refine tS eJ rfl (.tmp 66) (.tmp 68) 60 rfl Tryz.underlying60 w.heap.size rfl hD [s] _ _ _ rfl rfl rfl fc.out fa.out ?_
                         intro v' w4 aa
                         have fk := aa.own
                         have c7 := ad aa
                         obtain ⟨va, vc, fn⟩ := fk.shape'
                         have k0 := fe.chg aa.chg' (fun e => c6 e)
                         have e3 := k0.cell (34 + o) (by omega) rfl
                         have e4 := k0.frozen (34 + o)
                         clear aa
                         subst fn)
          all_goals (go_wp2_with fail
                     rw [show (m9 ++ [s]).length = m9.length + 1 by simp] at c7
                     have c9 := e2.out _ (.slice va (m9.length + 1) vc) w4 (by rw [ae (by omega), es]) (by rw [ag rfl, dT.out]; rfl) (fun i j1 j2 => by rw [ae j2, O i j1]) (by rw [fh.out]; exact c7.out) Y.out
                     go_roundw
                     case rel => exact ⟨s + 1, _, by omega, by go_num, c9.1, ⟨by rw [ae (by omega), ae (by omega), O _ (by omega)]; exact U.out.1, by rw [ae (by omega), ae (by omega), O _ (by omega)]; exact U.out.2⟩, c9.2⟩
                     case measure => simp [intOf]; omega)
    · obtain rfl:s=d.length:=(by omega);have gs:¬(d.length:Int)<d.length:=(by omega);go_wp2_with fail;go_ret2;exact⟨_,rfl,⟨c,D⟩,M⟩
theorem Sp(v:Value)(d:List UInt8)(w:World)(h:ai w eB v d)(m:d.length<=300)(o:∀ c∈d,c.toNat<=15)(q:cI d=false) :
  Calls Tryz.prog 180 #[v] w fun e w'=>e=.returned (.tuple #[.pointer none,.int .i64 7])/\Fr w w':=by
 have z:=ad (EQ _ d w h m o);clear h;go_enter Tryz.func180, Tryz.ntmps180;go_wp2_with fail;refine z.out.mono ?_;rintro e G ⟨_,D,F⟩;obtain rfl:=D q;go_wp2_with fail;go_ret2;exact⟨rfl,F⟩
theorem Nb(d:List UInt8)(base g n s:Nat)(c:Nat->Value)(w:World)(h:df w base g d n c)(J:d.length<=300)(K:s<=1000000) :
  Calls Tryz.prog 217 #[.pointer (some ⟨g,0,none⟩),N s] w fun e w'=>e=.returned (N (bN d s))/\w'=w:=by
 have m:=h.own0.see;obtain⟨a,L,o,M,D,O⟩:=m.shape;have Q:=h.arr.cell 0 (by omega) o;unfold maxLen at D;have R:¬(s:Int)<0:=by omega
 by_cases q:s<d.length;· rw [o]at m;obtain⟨b,F,U,G,z⟩:=nO m s q;cases G;rw [n0 d s q];generalize d[s]=x at *;replace z:w.cell? ⟨b,F+s,none⟩=some (.int .u8 ((x.toNat:Nat):Int)):=z;have V:x.toNat<256:=x.toNat_lt;generalize x.toNat=X at *;have I:¬(d.length:Int)<=s:=(by omega);have Y:(s:Int)<d.length:=(by omega);clear h m o;go_enter Tryz.func217, Tryz.ntmps217;go_wp2_with fail;go_ret;exact⟨rfl,rfl⟩
 · rw [tQ d s (by omega)];have I:(d.length:Int)<=s:=(by omega);clear h m o;go_enter Tryz.func217, Tryz.ntmps217;go_wp2_with fail;go_ret;exact⟨rfl,rfl⟩
theorem Sq(d:List UInt8)(base g n s:Nat)(c:Nat->Value)(w:World)(h:df w base g d n c)(m:d.length<=300)(o:s<=1000000) :
  Calls Tryz.prog 181 #[.pointer (some ⟨g,0,none⟩),N s] w fun e w'=>e=.returned (N (bN d s))/\w'=w:=by
 have q:=ad (Nb d base g n s c w h m o);have z:=h.arr.cell 0 (by omega) rfl;clear h;go_enter Tryz.func181, Tryz.ntmps181;go_wp2_with fail;refine q.out.mono ?_;rintro e D ⟨rfl,rfl⟩;go_wp2_with fail;go_ret;exact⟨rfl,rfl⟩
theorem Sn(x v:Value)(w:World) :
  Calls Tryz.prog 139 #[.pointer none,x,v] w fun e w'=>e=.returned (.int .i64 7)/\Fr w w':=by
 go_enter Tryz.func139, Tryz.ntmps139;go_wp2_with fail;go_ret;exact⟨rfl,Fr.refl w⟩
theorem So(d:List UInt8)(L g2 n s:Nat)(c:Nat->Value)(base g:Nat)(T:TypeId)(rest:List Value)(z:Value)(l:List UInt8)(w:World)(h:df w L g2 d n c)(D:dd w base g T rest z l)
  (M:d.length<=300) (h15:∀ c∈d,c.toNat<=15) (hok:cI d=true) (hs:s<=1000000) (hl:l.length<=900000000) (hsz:base<=w.heap.size) :
  Calls Tryz.prog 139 #[.pointer (some ⟨g2,0,none⟩),.pointer (some ⟨g,0,none⟩),N s] w fun e w'=>e=.returned (.int .i64 (if bN d s=0 then 13 else 0))/\∃ o,dd w' base g T rest o (l++rm d s)/\br g z o w w':=by
 have K:=ad (fun W h=>Sq d L g2 n s c W h M hs);have X:=ad (fun k=>(⟨h.arr.fr ((Fr.refl w).drewN k),h.own0.fr ((Fr.refl w).drewN k),h.own1.fr ((Fr.refl w).drewN k),h.first,h.many,fun l a b=>(h.syms l a b).fr ((Fr.refl w).drewN k),h.apart,h.up⟩:df (w.drewN k) L g2 d n c));have ak:=ad (fun x n M hx o m W D hm hb=>yD x n M hx base g T rest o m W D hm hb);have O:=ad (K.out w h);have Y:=ad (fun k=>K.out (w.drewN k) (X.out k));have Q:=h.own0.see;have I:=h.own1.see;obtain⟨a,bm,R,bs,a2,bu⟩:=Q.shape;obtain⟨a1,cap1,J,a3,a4,b0⟩:=I.shape;have k0:=h.arr.cell 0 (by omega) R;have k1:=h.arr.cell 1 (by omega) J;unfold maxLen at a2 a4;by_cases F:bN d s=0;· rw [ag F,PZ d s F,gq];rw [F]at O;clear h K X Y Q I R J;go_enter Tryz.func139, Tryz.ntmps139;go_upto_region 3 with fail;go_wp2_with fail;refine O.out.mono ?_;rintro e U ⟨rfl,rfl⟩;go_wp2_with fail;go_ret;exact⟨rfl,z,D,br.refl g z _⟩
 · rw [ae F,PY d s F];have G:s<d.length:=by
    by_cases h:s<d.length;· exact h
    · exact absurd (tQ d s (by omega)) F
   have a6:d[s]≠0:=fun e=>F (by rw [n0 d s G,e];rfl);have Z:=Pj d hok h15 s G a6;have aa:s<(dK d).length:=(by rw [m7];exact G);have b4:=D6 d s aa;have a7:=h15 _ (bX G);rw [J]at I;obtain⟨b1,ba,b5,ab,c1⟩:=I.cell1 (fun n=>Value.int .u16 (n:Int)) rfl s aa;rw [Pi d s G];rw [<- n0 d s G]at Z a7;generalize hq:(dK d)[s]=q at *;generalize bc:bN d s=V at *;rw [m7]at J ab k1 a3;cases ab;replace c1:w.cell? ⟨b1,ba+s,none⟩=some (.int .u16 (q:Int)):=c1;have i2:(s:Int)<d.length:=(by omega);have i3:(0:Int)<=s:=(by omega);have b8:IntKind.u64.wrap (q:Int)=(q:Int):=eu _ (by omega);have b9:¬(V:Int)=0:=(by omega);have bA:((V:Int) == 0)=false:=(by simp;omega);have aj:dd w.drew base g T rest z l:=⟨((Fr.refl w).drewN 1).heap D.1,D.2.1.drew,D.2.2⟩;have HP:=ad (ak.out q V (by omega) Z z l w.drew aj (by omega) hsz);have bf:Hid (∀ o w',br g z o w.drew w'->br g z o w w'):=fun o w' h=>br.fr ((Fr.refl w).drewN 1) h;clear h K Q I R J hq bc aj D;go_enter Tryz.func139, Tryz.ntmps139;go_upto_region 3 with fail;go_wp2_with fail;refine O.out.mono ?_;rintro e U ⟨rfl,rfl⟩;go_upto_region 5 with fail
   go_region_with (first
    | (go_at_call 181; refine ((Y.out 1).mono ?_); rintro e U ⟨rfl, rfl⟩)
    | (go_at_call 149; refine HP.out.mono ?_; rintro e U ⟨rfl, o, bk, bl⟩))
   all_goals go_wp2_with fail
   all_goals go_ret
   all_goals exact⟨rfl,o,bk,bf.out _ _ bl⟩
theorem Se(v:Value)(d:List UInt8)(b2:Nat)(base g:Nat)(T:TypeId)(hT:T≠(eB:au Tryz.prog UInt8).e)(rest:List Value)(F:Value)(l:List UInt8)(w:World)(h:dd w base g T rest F l)
  (hs:Ow w b2 eB v d) (hap:v.ownBlock=none\/v.ownBlock≠F.ownBlock) (hn:d.length<=300) (h15:∀ c∈d,c.toNat<=15) (hok:cI d=true) (hl:l.length<=900000000) (hsz:base<=w.heap.size) :
  Calls Tryz.prog 179 #[.pointer (some ⟨g,0,none⟩),v] w fun e w'=>e=.returned (.int .i64 0)/\∃ o,dd w' base g T rest o (l++fz d)/\br g F o w w':=by
 obtain⟨a,cm,rfl,dv,cp,d0⟩:=hs.see.shape;unfold maxLen at cp;have b6:=ad (uZ _ d w hs.see hn h15);rw [hok]at b6;have cq:=hs.ne_cells h.1 hT
 have b7:Hid (∀ W o,br g F o w W->ai W eB (.slice a d.length cm) d):=fun W o G=>
  (hs.chg G.1 fun k Q e => by
   rcases e with e | e
   · rw [e] at Q; exact cq Q
   · rcases hap with h1 | h1
     · rw [h1] at Q; cases Q
     · exact h1 (Q.trans e.symm)).see
 have a0:=ad (fun x n hn hx o m W J hm hb=>yD x n hn hx base g T rest o m W J hm hb);have d1:=ad (zM d.length d (am _));go_enter Tryz.func179, Tryz.ntmps179;go_wp2_with fail;refine b6.out.mono ?_;rintro e w1 ⟨rfl,a4⟩;have c1:Hid (br g F F w w1):=(br.refl g F w).frR a4;have c4:Hid (dd w1 base g T rest F l):=⟨a4.heap h.1,h.2.1.fr a4,h.2.2⟩;clear h hs;go_wp2_with fail;go_loopw [6] (fun iv wr=>∃ (i:Nat) (o:Value) (m:List UInt8),i<=d.length/\iv=N i/\dd wr base g T rest o m/\br g F o w wr/\m.length<=l.length+10*i/\Hid (l++fz d=m++fz (d.drop i))) (fun iv _=>d.length - (intOf iv).toNat);case atStart=>exact⟨0,F,l,an _,rfl,c4.out,c1.out,by omega,rfl⟩
 case round=>
  obtain⟨i,o,m,hi,rfl,J,G,d3,R⟩:=hrel;have b9:=az hsz G.1.size;by_cases a6:i<d.length
  · obtain⟨b,a7,d4,hv,c0⟩:=nO (b7.out wr o G) i a6;have d5:=h15 _ (bX a6);have X:=ad (vV d[i]);have Y:=ad (ip a6);generalize hc:d[i]=c at *;cases hv;replace c0:wr.cell? ⟨b,a7+i,none⟩=some (.int .u8 ((c.toNat:Nat):Int)):=c0;have aC:Hid (c≠0->l++fz d=(m++cO c.toNat 4)++fz (d.drop (i+1))):=fun h0=>(by rw [R.out,Y.out,zL _ _ h0];simp);have bb:Hid (c=0->l++fz d=(m++cO 0 4)++(cO (eb (d.drop (i+1)) 63) 6++fz (d.drop (i+(eb (d.drop (i+1)) 63+1))))):=fun h0=>(by rw [R.out,Y.out,zK _ _ h0,mFQb];simp [rx,Nat.add_comm]);generalize c.toNat=I at *;have i1:(0:Int)<=i:=(by omega);have i2:(i:Int)<d.length:=(by omega);have bB:=nM I 4;by_cases bc:I=0
    · have c6:¬(0:Int)<I:=(by omega);have bL:=ad (bb.out (X.out.2 bc));clear aC bb Y X R;subst bc;have bR:=nM 0 4;go_wp2_with fail;generalize wr=z at *;go_loopw [7] (fun nv wr=>∃ n:Nat,1<=n/\n<=64/\i+n<=d.length/\nv=N n/\Hid (eb (d.drop (i+1)) 63+1=n+eb (d.drop (i+n)) (64 - n))/\∃ q,wr=z.drewN q) (fun nv _=>64 - (intOf nv).toNat);case atStart=>exact⟨1,am _,by omega,by omega,rfl,Nat.add_comm _ _,0,rfl⟩
      case round=>
       obtain⟨n,d9,dE,dT,rfl,U,q,rfl⟩:=hrel;have n1:(1:Int)<=n:=(by omega);obtain⟨Z,hZ⟩:∃ Z,Z=eb (d.drop (i+n)) (64 - n):=⟨_,rfl⟩;rw [<- hZ]at U;have O:=ad hZ;clear hZ;generalize V:z.drewN q=wq at *;go_upto_region 12 with fail;go_cut [51]from 33 to 51 (fun cv wx=>cv=.bool (decide (0<Z))/\Hid (0<Z->n<64/\i+n<d.length/\Z=eb (d.drop (i+(n+1))) (64 - (n+1))+1)/\∃ q,wx=z.drewN q)
       case first=>
        by_cases c9:n<64
        · have k1:(n:Int)<64:=(by omega);by_cases aa:i+n<d.length
          · have k2:(i:Int)+n<d.length:=(by omega);obtain⟨b',eq,er,cE,c3⟩:=nO (b7.out z o G) (i+n) aa;have cF:=ad (vV d[i+n]);have bm:=ad (Fg d (i+n) (63 - n) aa);have bs:=ad (Fh d (i+n) (64 - n) aa);generalize es:d[i+n]=K at *;cases cE;replace c3:z.cell? ⟨b,a7+(i+n),none⟩=some (.int .u8 ((K.toNat:Nat):Int)):=c3;have ev:wq.cell? ⟨b,a7+(i+n),none⟩=some (.int .u8 ((K.toNat:Nat):Int)):=(by rw [<- V];exact c3);by_cases ab:K=0;· have bu:K.toNat=0:=(by rw [ab];rfl);have D:Hid (Z=eb (d.drop (i+(n+1))) (64 - (n+1))+1):=(by show _=_;rw [O.out,show 64 - n=63 - n+1 by omega,bm.out ab,show 63 - n=64 - (n+1) by omega];rfl);have L:Hid (decide (0<Z)=true):=bt (by rw [D.out];omega);generalize K.toNat=bT at *;subst bu;clear bm bs;go_wp2_with fail;go_meet;exact⟨by rw [L.out],fun _=>⟨c9,aa,D.out⟩,_,V.symm⟩
            · have bu:K.toNat≠0:=fun e=>ab (cF.out.2 e);have D:Hid (Z=0):=(by show _=_;rw [O.out,bs.out ab]);have L:Hid (decide (0<Z)=false):=aX (by rw [D.out];omega);generalize K.toNat=bT at *;have e0:decide ((bT:Int)=0)=false:=aX (by omega);clear bm bs;go_wp2_with fail;go_meet;exact⟨by rw [L.out];simp [bu],fun h=>by rw [D.out]at h;omega,_,V.symm⟩
          · have k2:¬(i:Int)+n<d.length:=(by omega);have D:Hid (Z=0):=(by show _=_;rw [O.out,Fj _ _ _ (by omega)]);have L:Hid (decide (0<Z)=false):=aX (by rw [D.out];omega);go_wp2_with fail;go_meet;exact⟨by rw [L.out],fun h=>by rw [D.out]at h;omega,_,V.symm⟩
        · have k1:¬(n:Int)<64:=(by omega);have D:Hid (Z=0):=(by show _=_;rw [O.out,show 64 - n=0 by omega,Ff]);have L:Hid (decide (0<Z)=false):=aX (by rw [D.out];omega);go_wp2_with fail;go_meet;exact⟨by rw [L.out],fun h=>by rw [D.out]at h;omega,_,V.symm⟩
       case rest=>
        obtain⟨rfl,HN,M,rfl⟩:=hcut;by_cases ac:0<Z
        · have aj:decide (0<Z)=true:=bt ac;obtain⟨a1,a2,a3⟩:=HN.out ac;simp only [aj];have cG:Hid (eb (d.drop (i+1)) 63+1=n+1+eb (d.drop (i+(n+1))) (64 - (n+1))):=(by show _=_;rw [U.out,a3];omega);clear a3 U O HN;go_wp2_with fail;go_roundw;case rel=>exact⟨n+1,by omega,by omega,by omega,by go_num,cG,M,rfl⟩
          case measure=>simp [intOf];omega
        · have aj:decide (0<Z)=false:=aX ac;obtain rfl:Z=0:=(by omega);simp only [aj];have cb:Hid (eb (d.drop (i+1)) 63=n - 1):=(by show _=_;have:=U.out;omega);have b0:Hid (l++fz d=((m++cO 0 4)++cO (n - 1) 6)++fz (d.drop (i+n))):=(by show _=_;rw [bL.out,cb.out,show n - 1+1=n by omega];simp);have cL:dd (z.drewN M) base g T rest o m:=⟨((Fr.refl z).drewN M).heap J.1,J.2.1.fr ((Fr.refl z).drewN M),J.2.2⟩;have cN:=G.frR ((Fr.refl z).drewN M);have cc:=az b9 ((Fr.refl z).drewN M).size;generalize z.drewN M=wq at *;have HP:=ad (a0.out 0 4 (by omega) (by omega) o m wq cL (by omega) cc);have h6:=nM (n - 1) 6;have cR:IntKind.u64.wrap ((n:Int) - 1)=((n - 1:Nat):Int):=(by rw [show(n:Int) - 1=((n - 1:Nat):Int) by omega];exact eu _ (by omega));have e3:IntKind.i64.wrap ((n:Int) - 1)=((n - 1:Nat):Int):=(by rw [aw _ (by omega)];omega);clear U O HN aj ac cb bL;go_wp2_with fail;refine HP.out.mono ?_;rintro e w3 ⟨rfl,b3,b4,ak⟩;have cT:=az cc ak.1.size;have da:(m++cO 0 4).length<=l.length+10*i+4:=(by rw [aD,bR];omega);have dc:=ad (a0.out (n - 1) 6 (by omega) (by have:(2:Nat) ^ 6=64:=rfl;omega) b3 (m++cO 0 4) w3 b4 (by omega) cT);have b5:Hid ((m++cO 0 4++cO (n - 1) 6).length<=l.length+10*(i+n)):=(by show _<=_;rw [aD,h6];omega);clear da h6 bR;go_wp2_with fail;refine dc.out.mono ?_;rintro e w4 ⟨rfl,di,dj,dr⟩;go_wp2_with fail;go_roundw;case rel=>exact⟨i+n,di,_,by omega,by go_num,dj,(cN.trans ak).trans dr,b5.out,b0⟩
          case measure=>simp [intOf];omega
    · have c6:(0:Int)<I:=(by omega);have b0:=ad (aC.out (fun e=>bc (X.out.1 e)));have HP:=ad (a0.out I 4 (by omega) (by have:(2:Nat) ^ 4=16:=rfl;omega) o m wr J (by omega) b9);have cR:IntKind.u64.wrap (I:Int)=I:=eu _ (by omega);have cj:(m++cO I 4).length<=l.length+10*(i+1):=(by rw [aD,bB];omega);have b5:=ad cj;clear aC bb Y X R cj bB;go_wp2_with fail;refine HP.out.mono ?_;rintro e w3 ⟨rfl,b3,b4,ak⟩;go_wp2_with fail;go_roundw;case rel=>exact⟨i+1,b3,_,by omega,by go_num,b4,G.trans ak,b5.out,b0⟩
      case measure=>simp [intOf];omega
  · obtain rfl:i=d.length:=(by omega);have e4:¬(d.length:Int)<d.length:=(by omega);have ds:Hid (l++fz d=m):=(by show _=_;rw [R.out,qk,vQ,gq]);go_wp2_with fail;go_ret;exact⟨rfl,o,by rw [ds.out];exact J,G⟩
theorem Sd(v:Value)(d:List UInt8)(g:Nat)(w:World)(h:ai w eB v d)(o:d.length<=300)(q:∀ c∈d,c.toNat<=15)(z:cI d=false) :
  Calls Tryz.prog 179 #[.pointer (some ⟨g,0,none⟩),v] w fun e w'=>e=.returned (.int .i64 7)/\Fr w w':=by
 have m:=ad (uZ _ d w h o q);rw [z]at m;clear h;go_enter Tryz.func179, Tryz.ntmps179;go_wp2_with fail;refine m.out.mono ?_;rintro e F ⟨rfl,D⟩;go_wp2_with fail;go_ret;exact⟨rfl,D⟩
abbrev oy(t l s x:Value):Obj:=.cells #[t,l,s,x] 40 (0,0)
theorem J6(B base:Nat)(s:Cs)(b:List UInt8)(w:World)(M:ar w 130 B base b s.at_ s.er)(U:b.length<=1000000) :
  Calls Tryz.prog 167 #[.agg #[.pointer (some ⟨B,0,none⟩)],.bool false] w fun e w'=>e=.returned (lA (fH false b s))/\ar w' 130 B base b (dh false b s).2.at_ (dh false b s).2.er/\ah (fun k=>k=B) w w':=by
 have V:Hid (∀ W,ar W 130 B base b s.at_ s.er->Calls Tryz.prog 199 #[.pointer (some ⟨B,0,none⟩),N 4000] W fun e w'=>e=.returned (S (fG false b s).1)/\ar w' 130 B base b (fG false b s).2.at_ (fG false b s).2.er/\ah (fun b=>b=B) W w'):=fun W h=>sV 4000 (by decide) B base s b W h U;have X:Hid (∀ W,ar W 130 B base b (fG false b s).2.at_ (fG false b s).2.er->Calls Tryz.prog 199 #[.pointer (some ⟨B,0,none⟩),N 4000] W fun e w'=>e=.returned (S (dh false b s).1)/\ar w' 130 B base b (dh false b s).2.at_ (dh false b s).2.er/\ah (fun b=>b=B) W w'):=fun W h=>sV 4000 (by decide) B base (fG false b s).2 b W h U;have HR:Hid (lA (fH false b s)=.agg #[.int .u64 0,.int .u8 0,S (fG false b s).1,S (dh false b s).1]):=rfl;have b5:=M.lt;obtain⟨g,J⟩:∃ g,g=w.heap.size:=⟨_,rfl⟩;obtain⟨q,z⟩:∃ q,q=(w.alloc (.cells #[.pointer (some ⟨B,0,none⟩)] 257)).alloc (.cells #[.int .u64 0,.int .u8 0,.string ⟨#[]⟩,.string ⟨#[]⟩] 40):=⟨_,rfl⟩;have aC:Fr w (w.alloc (.cells #[.pointer (some ⟨B,0,none⟩)] 257)):=(Fr.refl w).alloc _;have Y:Fr w q:=by rw [z];exact aC.alloc _
 have Z:q.heap[g]?=some (.cells #[.pointer (some ⟨B,0,none⟩)] 257 (0,0)):=by rw [z,J];exact((Fr.refl _).alloc _).heap (a9 _ _ _ rfl)
 have ba:q.heap[g+1]?=some (oy (.int .u64 0) (.int .u8 0) (.string ⟨#[]⟩) (.string ⟨#[]⟩)):=by rw [z,J];exact a9 _ _ _ (by simp)
 have ii:=M.fr Y;have bb:B≠g:=by omega
 have D:B≠g+1:=by omega
 have c0:=af Z 0 rfl;have aa:=ad (V.out q ii);generalize (fG false b s).1=m at *;generalize (fG false b s).2=s1 at *;generalize (dh false b s).1=d at *;generalize (dh false b s).2=s2 at *;generalize lA (fH false b s)=RV at *;have HG:=ad J;have HW:=ad z;clear M z;go_enter Tryz.func167, Tryz.ntmps167;go_upto_region 5 with fail;rw [<- HG.out,<- HW.out];clear J;go_wp2_with fail;refine(aa.out).mono ?_;rintro e w1 ⟨rfl,aj,K⟩;have O:=K.heap Z (fun e=>bb e.symm);have F:=K.heap ba (fun e=>D e.symm);have z2:=al F 2;have d2:=af F 2 rfl;have d0:=af O 0 rfl;have o:=ao w1 ⟨g+1,2,none⟩ (S m);have ak:=a8 F 2 (S m);have ap:=o.heap O (fun e=>by have e:g=g+1:=e;omega);have av:=aj.box F (by decide) D o;have a0:=(K.mono (G':=fun k=>k=B\/k=g+1) (fun k hk h=>.inl h)).trans o (fun _ _ h=>.inr h);clear aj K aa V c0 o;go_upto_region 5 with fail;generalize bs:w1.setCell ⟨g+1,2,none⟩ (S m)=W2 at *;clear bs z2 d2 d0 O F;have a2:W2.heap[g+1]?=some (oy (.int .u64 0) (.int .u8 0) (S m) (.string ⟨#[]⟩)):=ak;have e0:=af ap 0 rfl;have a3:=ad (X.out W2 av);clear X ak av;go_wp2_with fail;refine(a3.out).mono ?_;rintro e G ⟨rfl,a4,Q⟩;have I:=Q.heap a2 (fun e=>D e.symm);have z3:=al I 3;have d3:=af I 3 rfl;have o:=ao G ⟨g+1,3,none⟩ (S d);have a5:=a8 I 3 (S d);have bv:=a4.box I (by decide) D o;have bx:=(a0.trans Q (fun _ _ h=>.inl h)).trans o (fun _ _ h=>.inr h);clear a4 Q a3 e0 o a2 ap a0;have L:(G.setCell ⟨g+1,3,none⟩ (S d)).heap[g+1]?=some (oy (.int .u64 0) (.int .u8 0) (S m) (S d)):=a5;have R:(Tryz.prog.info? 40).map (·.size)=some 4:=by kernel_rfl
 have b0:(#[Value.int .u64 0,.int .u8 0,S m,S d]:Array Value).all (·.oneCell')=true:=by rw [dP];rfl
 clear a5 I;have a6:=bC (G.setCell ⟨g+1,3,none⟩ (S d)) (g+1) #[Value.int .u64 0,.int .u8 0,S m,S d];have b1:=bv.box L (by decide) D a6;have b2:=cP (G.setCell ⟨g+1,3,none⟩ (S d)) (g+1) _ #[Value.int .u64 0,.int .u8 0,S m,S d] _ _ L;have b3:=bx.trans a6 (fun _ _ h=>.inr h);have HF:Hid (ah (fun k=>k=B) w ((G.setCell ⟨g+1,3,none⟩ (S d)).setRow (g+1) #[Value.int .u64 0,.int .u8 0,S m,S d])):=(Y.chg (fun k=>k=B)).trans b3 (fun k hk h=>by rcases h with h | h;exact h;rw [HG.out]at h;omega);go_wp2_with (first | (refine kD rfl 40 (.tmp 4) rfl (g+1) rfl 40 #[.int .u64 0,.int .u8 0,S m,S d] (0,0) _ L Tryz.underlying40 rfl R ?_) | (refine bS rfl 40 (.tmp 4) (.tmp 22) rfl (g+1) #[.int .u64 0,.int .u8 0,S m,S d] rfl rfl 40 _ L R rfl b0 ?_));go_wp2_with fail;(try simp only [Exit.inBlock,Exit.then]);refine aL (v:=.agg #[.int .u64 0,.int .u8 0,S m,S d]) (rr Tryz.results167 _ _ (g+1) 40 #[.int .u64 0,.int .u8 0,S m,S d] (0,0) _ rfl b2 Tryz.underlying40 rfl R) rfl ?_;exact⟨by rw [HR.out],b1,HF.out⟩
theorem J5(B base:Nat)(s:Cs)(b:List UInt8)(w:World)(Z:ar w 130 B base b s.at_ s.er)(Q:b.length<=1000000)(hb:base<=w.heap.size) :
  Calls Tryz.prog 167 #[.agg #[.pointer (some ⟨B,0,none⟩)],.bool true] w fun e w'=>e=.returned (lA (fH true b s))/\ar w' 130 B base b (dh true b s).2.at_ (dh true b s).2.er/\ah (fun k=>k=B) w w':=by
 have a5:Hid (∀ W,ar W 130 B base b s.at_ s.er->Calls Tryz.prog 198 #[.pointer (some ⟨B,0,none⟩)] W fun e w'=>e=.returned (.int .u64 ((kd true b s).1:Int))/\ar w' 130 B base b (kd true b s).2.at_ (kd true b s).2.er/\ah (fun b=>b=B) W w'):=fun W h=>ED B base s b W h Q;have a6:Hid (∀ W,ar W 130 B base b (kd true b s).2.at_ (kd true b s).2.er->base<=W.heap.size->Calls Tryz.prog 82 #[.pointer (some ⟨B,0,none⟩)] W fun e w'=>e=.returned (.int .u8 ((jF true b s).1:Int))/\ar w' 130 B base b (jF true b s).2.at_ (jF true b s).2.er/\ah (fun b=>b=B) W w'):=fun W h h2=>tf B base (kd true b s).2 b W h Q h2;have a7:Hid (∀ W,ar W 130 B base b (jF true b s).2.at_ (jF true b s).2.er->Calls Tryz.prog 199 #[.pointer (some ⟨B,0,none⟩),N 4000] W fun e w'=>e=.returned (S (fG true b s).1)/\ar w' 130 B base b (fG true b s).2.at_ (fG true b s).2.er/\ah (fun b=>b=B) W w'):=fun W h=>sV 4000 (by decide) B base (jF true b s).2 b W h Q;have aC:Hid (∀ W,ar W 130 B base b (fG true b s).2.at_ (fG true b s).2.er->Calls Tryz.prog 199 #[.pointer (some ⟨B,0,none⟩),N 4000] W fun e w'=>e=.returned (S (dh true b s).1)/\ar w' 130 B base b (dh true b s).2.at_ (dh true b s).2.er/\ah (fun b=>b=B) W w'):=fun W h=>sV 4000 (by decide) B base (fG true b s).2 b W h Q;have ba:(kd true b s).1<18446744073709551616:=by
  show Cs.val _ _<_;unfold Cs.val;split;· exact xC _
  · decide
 have bb:(jF true b s).1<256:=kF _;have HR:Hid (lA (fH true b s)=.agg #[.int .u64 ((kd true b s).1:Int),.int .u8 ((jF true b s).1:Int),S (fG true b s).1,S (dh true b s).1]):=by show Value.agg #[.int .u64 ((UInt64.ofNat (kd true b s).1).toNat:Int),.int .u8 ((UInt8.ofNat (jF true b s).1).toNat:Int),_,_]=_;rw [UInt64.toNat_ofNat',lP,oU ba,oU bb];rfl
 have cF:=Z.lt;obtain⟨g,R⟩:∃ g,g=w.heap.size:=⟨_,rfl⟩;obtain⟨F,G⟩:∃ F,F=(w.alloc (.cells #[.pointer (some ⟨B,0,none⟩)] 257)).alloc (.cells #[.int .u64 0,.int .u8 0,.string ⟨#[]⟩,.string ⟨#[]⟩] 40):=⟨_,rfl⟩;have ca:Fr w (w.alloc (.cells #[.pointer (some ⟨B,0,none⟩)] 257)):=(Fr.refl w).alloc _;have bc:Fr w F:=by rw [G];exact ca.alloc _
 have bd:F.heap[g]?=some (.cells #[.pointer (some ⟨B,0,none⟩)] 257 (0,0)):=by rw [G,R];exact((Fr.refl _).alloc _).heap (a9 _ _ _ rfl)
 have cb:F.heap[g+1]?=some (oy (.int .u64 0) (.int .u8 0) (.string ⟨#[]⟩) (.string ⟨#[]⟩)):=by rw [G,R];exact a9 _ _ _ (by simp)
 have ii:=Z.fr bc;have aa:B≠g:=by omega
 have D:B≠g+1:=by omega
 have c0:=af bd 0 rfl;have bf:=ad (a5.out F ii);have cG:base<=g:=by omega
 clear ba bb;generalize (kd true b s).1=m at *;generalize (kd true b s).2=q1 at *;generalize (jF true b s).1=q at *;generalize (jF true b s).2=q2 at *;generalize (fG true b s).1=z at *;generalize (fG true b s).2=s1 at *;generalize (dh true b s).1=o at *;generalize (dh true b s).2=s2 at *;generalize lA (fH true b s)=RV at *;have HG:=ad R;have HW:=ad G;clear Z G a5;go_enter Tryz.func167, Tryz.ntmps167;go_upto_region 5 with fail;rw [<- HG.out,<- HW.out];clear R;go_wp2_with fail;refine(bf.out).mono ?_;rintro e w1 ⟨rfl,bl,U⟩;have ac:=U.heap bd (fun e=>aa e.symm);have I:=U.heap cb (fun e=>D e.symm);have z0:=al I 0;have d0:=af I 0 rfl;have J:=af ac 0 rfl;have d:=ao w1 ⟨g+1,0,none⟩ (.int .u64 (m:Int));have aj:(w1.setCell ⟨g+1,0,none⟩ (.int .u64 (m:Int))).heap[g+1]?=some (oy (.int .u64 (m:Int)) (.int .u8 0) (.string ⟨#[]⟩) (.string ⟨#[]⟩)):=a8 I 0 _;have ak:=d.heap ac (fun e=>by have e:g=g+1:=e;omega);have bm:=bl.box I (by decide) D d;have bs:=(U.mono (G':=fun k=>k=B\/k=g+1) (fun k hk h=>.inl h)).trans d (fun _ _ h=>.inr h);clear bl U bf c0 d;go_upto_region 5 with fail;generalize cl:w1.setCell ⟨g+1,0,none⟩ (.int .u64 (m:Int))=W2 at *;clear cl z0 d0 J ac I;have e2:=af ak 0 rfl;have bv:base<=W2.heap.size:=by have:=(aM.1 aj).1;omega
 have bx:=ad (a6.out W2 bm bv);clear a6 bm;go_wp2_with fail;refine(bx.out).mono ?_;rintro e w3 ⟨rfl,b0,V⟩;have av:=V.heap ak (fun e=>aa e.symm);have K:=V.heap aj (fun e=>D e.symm);have z1:=al K 1;have d1:=af K 1 rfl;have J:=af av 0 rfl;have d:=ao w3 ⟨g+1,1,none⟩ (.int .u8 (q:Int));have b1:(w3.setCell ⟨g+1,1,none⟩ (.int .u8 (q:Int))).heap[g+1]?=some (oy (.int .u64 (m:Int)) (.int .u8 (q:Int)) (.string ⟨#[]⟩) (.string ⟨#[]⟩)):=a8 K 1 _;have a0:=d.heap av (fun e=>by have e:g=g+1:=e;omega);have b2:=b0.box K (by decide) D d;have b3:=(bs.trans V (fun _ _ h=>.inl h)).trans d (fun _ _ h=>.inr h);clear b0 V bx e2 d aj ak bs bv;go_upto_region 5 with fail;generalize cq:w3.setCell ⟨g+1,1,none⟩ (.int .u8 (q:Int))=W4 at *;clear cq z1 d1 J av K;have e4:=af a0 0 rfl;have b4:=ad (a7.out W4 b2);clear a7 b2;go_wp2_with fail;refine(b4.out).mono ?_;rintro e w5 ⟨rfl,b5,X⟩;have a2:=X.heap a0 (fun e=>aa e.symm);have L:=X.heap b1 (fun e=>D e.symm);have z2:=al L 2;have d2:=af L 2 rfl;have J:=af a2 0 rfl;have d:=ao w5 ⟨g+1,2,none⟩ (S z);have b6:(w5.setCell ⟨g+1,2,none⟩ (S z)).heap[g+1]?=some (oy (.int .u64 (m:Int)) (.int .u8 (q:Int)) (S z) (.string ⟨#[]⟩)):=a8 L 2 _;have b7:=d.heap a2 (fun e=>by have e:g=g+1:=e;omega);have b8:=b5.box L (by decide) D d;have b9:=(b3.trans X (fun _ _ h=>.inl h)).trans d (fun _ _ h=>.inr h);clear b5 X b4 e4 d b1 a0 b3;go_upto_region 5 with fail;generalize c1:w5.setCell ⟨g+1,2,none⟩ (S z)=W6 at *;clear c1 z2 d2 J a2 L;have e6:=af b7 0 rfl;have bA:=ad (aC.out W6 b8);clear aC b8;go_wp2_with fail;refine(bA.out).mono ?_;rintro e M ⟨rfl,bB,a3⟩;have O:=a3.heap b6 (fun e=>D e.symm);have z3:=al O 3;have d3:=af O 3 rfl;have d:=ao M ⟨g+1,3,none⟩ (S o);have Y:(M.setCell ⟨g+1,3,none⟩ (S o)).heap[g+1]?=some (oy (.int .u64 (m:Int)) (.int .u8 (q:Int)) (S z) (S o)):=a8 O 3 (S o);have c5:=bB.box O (by decide) D d;have c6:=(b9.trans a3 (fun _ _ h=>.inl h)).trans d (fun _ _ h=>.inr h);clear bB a3 bA e6 d b6 b7 b9;have a4:(Tryz.prog.info? 40).map (·.size)=some 4:=by kernel_rfl
 have c7:(#[Value.int .u64 (m:Int),.int .u8 (q:Int),S z,S o]:Array Value).all (·.oneCell')=true:=by rw [dP];rfl
 clear O;have bL:=bC (M.setCell ⟨g+1,3,none⟩ (S o)) (g+1) #[Value.int .u64 (m:Int),.int .u8 (q:Int),S z,S o];have c8:=c5.box Y (by decide) D bL;have c9:=cP (M.setCell ⟨g+1,3,none⟩ (S o)) (g+1) _ #[Value.int .u64 (m:Int),.int .u8 (q:Int),S z,S o] _ _ Y;have cA:=c6.trans bL (fun _ _ h=>.inr h);have HF:Hid (ah (fun k=>k=B) w ((M.setCell ⟨g+1,3,none⟩ (S o)).setRow (g+1) #[Value.int .u64 (m:Int),.int .u8 (q:Int),S z,S o])):=(bc.chg (fun k=>k=B)).trans cA (fun k hk h=>by rcases h with h | h;exact h;rw [HG.out]at h;omega);go_wp2_with (first | (refine kD rfl 40 (.tmp 4) rfl (g+1) rfl 40 #[.int .u64 (m:Int),.int .u8 (q:Int),S z,S o] (0,0) _ Y Tryz.underlying40 rfl a4 ?_) | (refine bS rfl 40 (.tmp 4) (.tmp 22) rfl (g+1) #[.int .u64 (m:Int),.int .u8 (q:Int),S z,S o] rfl rfl 40 _ Y a4 rfl c7 ?_));go_wp2_with fail;(try simp only [Exit.inBlock,Exit.then]);refine aL (v:=.agg #[.int .u64 (m:Int),.int .u8 (q:Int),S z,S o]) (rr Tryz.results167 _ _ (g+1) 40 #[.int .u64 (m:Int),.int .u8 (q:Int),S z,S o] (0,0) _ rfl c9 Tryz.underlying40 rfl a4) rfl ?_;exact⟨by rw [HR.out],c8,HF.out⟩
theorem E7(d:Bool)(b5:Hid (∀ (B base:Nat) (s:Cs) (b:List UInt8) (W:World),ar W 130 B base b s.at_ s.er->b.length<=1000000->base<=W.heap.size->Calls Tryz.prog 167 #[.agg #[.pointer (some ⟨B,0,none⟩)],.bool d] W fun e w'=>e=.returned (lA (fH d b s))/\ar w' 130 B base b (dh d b s).2.at_ (dh d b s).2.er/\ah (fun k=>k=B) W w'))
  (v:Value) (b:List UInt8) (w:World) (hs:ai w eB v b) (hl:b.length<=1000000) :
  Calls Tryz.prog 122 #[.bool d,v] w fun e w'=>∃ u,e=.returned (.tuple #[u,.int .i64 ((dS d b).2:Int)])/\Ow w' w.heap.size eR u (dS d b).1/\Fr w w':=by
 have a6:=ad (m8 v b w hs hl);have b6:=ad (fun B s W h hb=>b5.out B w.heap.size s b W h hl hb);have b8:=ad (fun B n K W (h:ar W 130 B w.heap.size b n K)=>ze B w.heap.size n K b W h);have b9:=ad (fun B n K W (h:ar W 130 B w.heap.size b n K)=>iE B w.heap.size n K b W h);have bA:=ad (JA d b);have bB:=ad (J8 d b);have bL:=ad (JB d b);have bR:=ad (Bj d b);have bT:=ad (JK d b);have a7:Hid (dS d b=iN d b b.length ⟨0,0⟩ []):=rfl;generalize dS d b=R at *;obtain⟨a0,c8,rfl,_⟩:=hs.shape;clear hs;have ca:(Tryz.prog.info? 40).map (·.size)=some 4:=by kernel_rfl
 go_enter Tryz.func122, Tryz.ntmps122;go_wp2_with fail;refine(a6.out).mono ?_;rintro e z ⟨B,rfl,hC,Z,hB⟩;have c9:=hC.lt;have aC:(z.alloc (.cells #[.pointer (some ⟨B,0,none⟩)] 257)).heap[z.heap.size]?=some (.cells #[.pointer (some ⟨B,0,none⟩)] 257 (0,0)):=a9 _ _ _ rfl;have aa:Fr z (z.alloc (.cells #[.pointer (some ⟨B,0,none⟩)] 257)):=(Fr.refl z).alloc _;have ii:=hC.fr aa;have ba:=Z.trans aa;have cA:w.heap.size<=z.heap.size:=Z.size;go_upto_region 4 with fail;generalize z.alloc (.cells #[.pointer (some ⟨B,0,none⟩)] 257)=W0 at *;generalize z.heap.size=g at *;clear hC Z aa a6;have cc:B≠g:=by omega
 go_loopw [7] (fun ov wr=>∃ (f:Nat) (s:Cs) (o:List aF),s.er=0/\b.length<=f+s.at_/\o.length<=s.at_/\s.at_<=b.length/\Ow wr w.heap.size eR ov o/\ar wr 130 B w.heap.size b s.at_ s.er/\wr.heap[g]?=some (.cells #[.pointer (some ⟨B,0,none⟩)] 257 (0,0))/\Hid (R=iN d b f s o)/\Fr w wr) (fun ov _=>b.length - (match ov with | .slice _ m _=>m | _=>0));case atStart=>exact⟨b.length,⟨0,0⟩,[],rfl,am _,am _,an _,Ow.nil,ii,aC,a7.out,ba⟩
 case round=>
  clear aC ii ba a7;obtain⟨f,s,o,he,cE,cF,ch,U,hC,hG,HR,hf⟩:=hrel;have c0:=af hG 0 rfl;have F:=ad (b8.out B _ _ wr hC);obtain⟨oa,oc,rfl⟩:=U.shape';by_cases bc:s.at_<b.length
  · obtain⟨G,rfl⟩:∃ G,f=G+1:=by
      cases f with
      | zero=>omega
      | succ G=>exact⟨G,rfl⟩
    have i1:(0:Int)<(b.length:Int) - s.at_:=(by omega);go_wp2_with fail;refine(F.out).mono ?_;rintro e w2 ⟨rfl,q⟩;have ap:=hC.fr q;have bk:=q.heap hG;have L:=U.fr q;have c2:=q.cell c0;have I:=hf.trans q;have bl:=ad (b6.out B s w2 ap I.size);have cj:((b.length - s.at_:Nat):Int)=(b.length:Int) - s.at_:=(by omega);have i2:(0:Int)<((b.length - s.at_:Nat):Int):=(by omega);generalize b.length - s.at_=m at *;clear U hC hG c0 hf q F i1 cj;go_wp2_with fail;refine(bl.out).mono ?_;rintro e D ⟨rfl,av,V⟩;have cR:=av.lt;have a1:=V.heap bk (fun e=>cc e.symm);have bm:=ap.cbox;have bs := L.chg V (fun i hi e => by
     obtain ⟨cs, h5⟩ := bm
     exact L.ne_cells h5 (by decide) (by rw [hi, show i = B from e]))
    have bu:Fr w D:=ah.below I V I.size (fun i e=>by rw [show i=B from e];exact hB);have c3:=af a1 0 rfl;have J:Fr D (D.alloc (.cells #[.int .u64 ((fH d b s).time.toNat:Int),Fk.u8 (fH d b s).level,S (fH d b s).source,S (fH d b s).text] 40)):=(Fr.refl D).alloc _;have cm:(D.alloc (.cells #[.int .u64 ((fH d b s).time.toNat:Int),Fk.u8 (fH d b s).level,S (fH d b s).source,S (fH d b s).text] 40)).heap[D.heap.size]?=some (.cells #[.int .u64 ((fH d b s).time.toNat:Int),Fk.u8 (fH d b s).level,S (fH d b s).source,S (fH d b s).text] 40 (0,0)):=a9 _ _ _ rfl;have HU:=ad (fun h=>bR.out s h);have bx:=ad (fun h=>bB.out G s o bc h);have b0:=ad (fun h=>bL.out G s o bc h);have F:=ad (bT.out s ch);clear ap bk L c2 I V bm bl;generalize fH d b s=r at *;generalize (dh d b s).2=X at *;have b1:=av.fr J;have b2:=J.heap a1;have M:=bs.fr J;have c4:=J.cell c3;have Y:=bu.trans J;have a3:=ad (b9.out B _ _ _ b1);have cn:o.length+[r].length<=2147483648:=(by rw [show [r].length=1 from rfl];omega);clear av a1 bs c3 bu J;go_wp2_with fail;refine(a3.out).mono ?_;rintro e w5 ⟨rfl,rfl⟩;generalize D.alloc (.cells #[.int .u64 (r.time.toNat:Int),Fk.u8 r.level,S r.source,S r.text] 40)=W4 at *;generalize D.heap.size=x3 at *;by_cases O:X.er=0
    · have h0:((X.er:Nat):Int)=0:=(by omega);have cq:=ad (bx.out O);have dj:=(HU.out O).2.1;have dr:(#[Value.int .u64 (r.time.toNat:Int),Fk.u8 r.level,S r.source,S r.text]:Array Value).size=4:=rfl;rw [h0];clear b0 a3 h0 HU;go_wp2_with (first | (refine kD rfl 40 (.tmp 8) rfl x3 rfl 40 #[.int .u64 (r.time.toNat:Int),Fk.u8 r.level,S r.source,S r.text] (0,0) _ cm Tryz.underlying40 rfl ca ?_) | (at_builtin;refine cW eR rfl (.tmp 26) (.tmp 28) 25 rfl Tryz.underlying25 w.heap.size rfl M [r] _ _ _ rfl rfl rfl cn Y.size ?_));intro v' w6 Q;have ct:=b1.app M Q (by decide) (by decide);have cu:=Q.chg'.heap b2 (M.ne_cells b2 (by decide));have cv:=Q.below M Y (am _) Y.size;have a5:=Q.own;obtain⟨va,vc,b3⟩:=a5.shape';rw [aD,show [r].length=1 from rfl]at b3;subst b3;have c1:=ad a5;clear Q a5 M;go_wp2_with fail;go_roundw;case rel=>exact⟨G,X,o++[r],O,by omega,by rw [aD];simp;omega,F.out,c1.out,ct,cu,by show _=_;rw [HR.out,cq.out],cv⟩
      case measure=>simp;omega
    · have h0:¬((X.er:Nat):Int)=0:=(by omega);have c5:=ad (b0.out O);clear bx a3 HU O F;go_wp2_with fail;go_ret2;rw [HR.out,c5.out];exact⟨_,rfl,Ow.nil,Y⟩
  · have i1:¬(0:Int)<(b.length:Int) - s.at_:=(by omega);have hm:b.length - s.at_=0:=(by omega);have c6:=ad (bA.out f s o (by omega) he);rw [hm]at F;clear hm;go_wp2_with fail;refine(F.out).mono ?_;rintro e w2 ⟨rfl,q⟩;have L:=U.fr q;have I:=hf.trans q;go_wp2_with fail;go_ret2;rw [HR.out,c6.out];exact⟨_,rfl,L,I⟩
theorem R8(v:Value)(b:List UInt8)(w:World)(m:ai w eB v b)(d:b.length<=1000000) :
  Calls Tryz.prog 122 #[.bool true,v] w fun e w'=>∃ u,e=.returned (.tuple #[u,.int .i64 ((dS true b).2:Int)])/\Ow w' w.heap.size eR u (dS true b).1/\Fr w w':=
 E7 true (fun B base s b W h d o=>J5 B base s b W h d o) v b w m d
theorem vO(a b:Nat)(A B:Nat)(d:a<=A)(e:b<=B)(h:A*B<=1000000000):IntKind.i64.wrap ((a:Int)*b)=((a*b:Nat):Int):=by
 have:a*b<=A*B:=bJ d e;rw [<- qp];exact iJ _ (by omega)
theorem Ba (R C i g n d base : Nat) (l : List UInt8) (w : World) (m : Ow w base eB (.slice (some ⟨g, 0, none⟩) n d) l) (o : l.length = R * C) (z : i < R) (hC : 1 ≤ C) (h : C ≤ 255) (D : R ≤ 255) :
    Calls Tryz.prog 266 #[.agg #[N R,N C,.slice (some ⟨g,0,none⟩) n d],N i] w fun e w'=>e=.returned (.slice (some ⟨g,i*C,none⟩) C (d - i*C))/\Fr w w':=by
  have F:(i+1)*C=i*C+C:=(by rw [bU,j8]);have G:(i+1)*C<=R*C:=dm C z;have I:R*C<=255*255:=bJ D h;obtain⟨J,_⟩:=tX rfl 22 Tryz.underlying22 m (i*C) ((i+1)*C) (by omega) (by omega);have K:=vO i C 255 255 (by omega) h (by omega);have L:IntKind.i64.wrap (((i:Int)+1)*C)=(((i+1)*C:Nat):Int):=vO (i+1) C 255 255 (by omega) h (by omega);rw [show(i+1)*C - i*C=C by omega]at J;have M:(i:Int)+1<=255:=(by omega);clear F G I o m;generalize i*C=p at *;generalize (i+1)*C=q at *;go_enter Tryz.func266, Tryz.ntmps266;go_wp2_with fail;go_ret;exact⟨rfl,(Fr.refl w).alloc _⟩
structure iV (w:World) (B o n g cap:Nat):Prop where
 c0:w.cell? ⟨B,o,none⟩=some (N n)
 c1:w.cell? ⟨B,o+1,none⟩=some (N n)
 c2:w.cell? ⟨B,o+2,none⟩=some (.slice (some ⟨g,0,none⟩) (n*n) cap)
theorem iV.fr{w w':World}{B o n g e:Nat}(h:iV w B o n g e)(d:Fr w w'):iV w' B o n g e:=⟨d.cell h.c0,d.cell h.c1,d.cell h.c2⟩
theorem ah.cell{G:Nat->Prop}{w w':World}(h:ah G w w'){a:Addr}{u:Value}(d:w.cell? a=some u)(e:¬G a.block):w'.cell? a=some u:=
 (World.cell?_of_block (h.block a.block (World.block_lt_of_cell? w _ d) e)).trans d
theorem iV.chg{w w':World}{G:Nat->Prop}{B o n g m:Nat}(h:iV w B o n g m)(d:ah G w w')(e:¬G B):iV w' B o n g m:=⟨ah.cell d h.c0 e,ah.cell d h.c1 e,ah.cell d h.c2 e⟩
theorem oh(B o n i g d base:Nat)(l:List UInt8)(w:World)(F:iV w B o n g d)(h:Ow w base eB (.slice (some ⟨g,0,none⟩) (n*n) d) l)(q:l.length=n*n)(z:i<n)(D:n<=255) :
  Calls Tryz.prog 283 #[.pointer (some ⟨B,o,none⟩),N i] w fun e w'=>e=.returned (.slice (some ⟨g,i*n,none⟩) n (d - i*n))/\Fr w w':=by
 have G:=ad (Ba n n i g (n*n) d base l w h q z (by omega) D D);obtain⟨J,K,c2⟩:=F;clear h q z;generalize n*n=m at *;generalize d - i*n=L at *;generalize i*n=p at *;go_enter Tryz.func283, Tryz.ntmps283;go_wp2_with fail;refine(G.out).mono ?_;rintro e M ⟨rfl,I⟩;go_wp2_with fail;go_ret;exact⟨rfl,I⟩
theorem Az(B o n i j g d base:Nat)(f:Nat->Nat->UInt8)(w:World)(D:iV w B o n g d)(m:Ow w base eB (.slice (some ⟨g,0,none⟩) (n*n) d) (aN n f (n*n)))(a5:B≠g)(F:i<n)(G:j<n)(I:n<=255) :
  Calls Tryz.prog 284 #[.pointer (some ⟨B,o,none⟩),N i,N j] w fun e w'=>e=.returned (.tuple #[])/\Ow w' base eB (.slice (some ⟨g,0,none⟩) (n*n) d) (aN n (fT f i j) (n*n))/\ah (fun k=>k=g) w w':=by
 have b5:g<w.heap.size:=(m.lt g rfl).2;have K:=eh n f (n*n);have b6:n*n<=255*255:=bJ I I;have X:i*n+n<=n*n:=by have:=dm n F;rw [iG]at this;exact this
 have Y:j*n+n<=n*n:=by have:=dm n G;rw [iG]at this;exact this
 have Z:=ad (fun W l (D:iV W B o n g d) (m:Ow W base eB (.slice (some ⟨g,0,none⟩) (n*n) d) l) (L:l.length=n*n)=>oh B o n i g d base l W D m L F I);have RJ:=ad (fun W l (D:iV W B o n g d) (m:Ow W base eB (.slice (some ⟨g,0,none⟩) (n*n) d) l) (L:l.length=n*n)=>oh B o n j g d base l W D m L G I);have S:=fun i (F:i<n) (W:World) (q:Fr w W)=>(tX (E:=eB) (t:=22) rfl Tryz.underlying22 (m.fr q) (i*n) ((i+1)*n) (by rw [iG];omega) (by rw [K];exact dm n F)).2;have SI:=ad (fun W q=>by have:=S i F W q;rw [rU n f n i F,show(i+1)*n - i*n=n by rw [iG];omega]at this;exact this);have SJ:=ad (fun W q=>by have:=S j G W q;rw [rU n f n j G,show(j+1)*n - j*n=n by rw [iG];omega]at this;exact this);clear S;have a6:=qC n f i;have a7:=qC n f j;have CI:=ad (fun W q=>jT _ (iM n f i) W (SI.out W q) (by omega));have CJ:=ad (fun W q=>jT _ (iM n f j) W (SJ.out W q) (by omega));have P1:Hid ((aN n f (n*n)).take (i*n)++(iM n f j++(aN n f (n*n)).drop (i*n+n))=aN n (gX f i (f j)) (n*n)):=xf n f n i F (f j);have P2:Hid ((aN n (gX f i (f j)) (n*n)).take (j*n)++(iM n f i++(aN n (gX f i (f j)) (n*n)).drop (j*n+n))=aN n (fT f i j) (n*n)):=by have:=xf n (gX f i (f j)) n j G (f i);rw [JM]at this;exact this
 have J:=ad K;have ac:=ad (eh n (gX f i (f j)) (n*n));clear K;clear SI SJ;generalize aN n (gX f i (f j)) (n*n)=z2 at *;generalize aN n (fT f i j) (n*n)=z3 at *;generalize aN n f (n*n)=z at *;generalize iM n f i=ri at *;generalize iM n f j=rj at *;have HI:=ad X;have HJ:=ad Y;clear X Y;have b8:=ad (Fr.refl w);go_enter Tryz.func284, Tryz.ntmps284;go_wp2_with fail;refine(Z.out _ _ D m J.out).mono ?_;rintro e w1 ⟨rfl,M⟩;go_wp2_with fail;refine(CI.out _ M).mono ?_;rintro e w2 ⟨v2,rfl,aj,bs⟩;have O:=M.trans bs;go_wp2_with fail;refine(RJ.out _ _ (D.fr O) (m.fr O) J.out).mono ?_;rintro e w3 ⟨rfl,ak⟩;have ap:=O.trans ak;go_wp2_with fail;refine(CJ.out _ ap).mono ?_;rintro e w4 ⟨v4,rfl,bu,av⟩;have Q:=ap.trans av;have bv:=aj.fr (ak.trans av);go_wp2_with fail;refine(Z.out _ _ (D.fr Q) (m.fr Q) J.out).mono ?_;rintro e w5 ⟨rfl,R⟩;have a0:=Q.trans R;have a1:0<n:=by omega
 have bx:=bu.fr R;have b0:=bv.fr R;go_wp2_with (refine vR rfl rfl (.tmp 18) (.tmp 19) 22 22 rfl Tryz.underlying22 g (i*n) n _ d _ _ z rj rfl rfl (m.fr a0) bx.see a7 a1 (by rw [J.out];exact HI.out) ?_);intro w6 U a2;rw [P1.out]at U;have a3:ah (fun k=>k=g) w w6:=(a0.chg _).trans a2 fun _ _ h=>h;have b2:=b0.chg a2 fun k hk e=>by have:=(aj.lt k hk).1;have:=M.size;omega
 go_wp2_with fail;refine(RJ.out _ _ (D.chg a3 a5) U ac.out).mono ?_;rintro e w7 ⟨rfl,V⟩;go_wp2_with (refine vR rfl rfl (.tmp 23) (.tmp 24) 22 22 rfl Tryz.underlying22 g (j*n) n _ d _ _ z2 ri rfl rfl (U.fr V) (b2.fr V).see a6 a1 (by rw [ac.out];exact HJ.out) ?_);intro w8 a4 b4;rw [P2.out]at a4;go_wp2_with fail;go_end0;exact⟨rfl,a4,(a3.trans (V.chg _) fun _ _ h=>h).trans b4 fun _ _ h=>h⟩
theorem rT{w:World}{base g m q n:Nat}{f:Nat->Nat->UInt8}(z:Ow w base eB (.slice (some ⟨g,0,none⟩) m q) (aN n f (n*n)))(r j:Nat)(d:r<n)(D:j<n) :
  w.cell? ⟨g,r*n+j,none⟩=some (.int .u8 ((f r j).toNat:Int))/\w.frozen? ⟨g,r*n+j,none⟩=false:=by
 have h:r*n+j<n*n:=by have:=dm n d;rw [iG]at this;omega
 obtain⟨o,F⟩:=z.cellAt Fk.u8 rfl (r*n+j) (by rw [eh];exact h);have e:=uh n f n r j d D;rw [cZ _ _ _ (by rw [eh];exact h)]at e;rw [e]at o;exact⟨o,F⟩
def mL(f:Nat->Nat->UInt8)(i:Nat)(c:UInt8)(k:Nat):Nat->Nat->UInt8:=fun r j=>if r=i/\j<k then aP c (f i j)else f r j
theorem IS(f:Nat->Nat->UInt8)(i:Nat)(c:UInt8)(k:Nat):(fun r j=>if r=i/\j=k then aP c (f i k)else mL f i c k r j)=mL f i c (k+1):=by
 funext r j;unfold mL;by_cases d:r=i
 · by_cases e:j=k;· subst d e;simp
   · by_cases h:j<k;· simp [d,e,h,show j<k+1 by omega]
     · simp [d,e,h,show ¬j<k+1 by omega]
 · simp [d]
theorem IR(f:Nat->Nat->UInt8)(i:Nat)(c:UInt8):mL f i c 0=f:=by
 funext r j;simp [mL]
theorem IU(n:Nat)(f:Nat->Nat->UInt8)(i:Nat)(c:UInt8):aN n (mL f i c n) (n*n)=aN n (l9 f i c) (n*n):=by
 refine ug n _ _ _ fun t d=>?_;have m:0<n:=by rcases jU n with e | e;(subst e;simp at d);exact e
 have:=kH t m;unfold mL l9;by_cases h:t / n=i;· rw [ag ⟨h,this⟩,ag h]
 · rw [ae (fun e=>h e.1),ae h]
theorem AW(B o n i g q base:Nat)(c:UInt8)(f:Nat->Nat->UInt8)(w:World)(F:iV w B o n g q)(z:Ow w base eB (.slice (some ⟨g,0,none⟩) (n*n) q) (aN n f (n*n)))(J:i<n)(K:n<=255) :
  Calls Tryz.prog 285 #[.pointer (some ⟨B,o,none⟩),N i,.int .u8 (c.toNat:Int)] w fun e w'=>e=.returned (.tuple #[])/\Ow w' base eB (.slice (some ⟨g,0,none⟩) (n*n) q) (aN n (l9 f i c) (n*n))/\ah (fun k=>k=g) w w':=by
 have ba:g<w.heap.size:=(z.lt g rfl).2;have bb:n*n<=255*255:=bJ K K;have R:=ad (E5 c.toNat c.toNat_lt);have U:=ad (fun W (F:iV W B o n g q) (z:Ow W base eB (.slice (some ⟨g,0,none⟩) (n*n) q) (aN n f (n*n)))=>oh B o n i g q base _ W F z (eh _ _ _) J K);go_enter Tryz.func285, Tryz.ntmps285;go_wp2_with fail;refine(R.out _).mono ?_;rintro e d ⟨rfl,G⟩;have V:(bV c.toNat).size=256:=by simp [bV]
 have a0:(bV c.toNat).all (·.oneCell')=true:=by unfold bV;rw [dP,og];intro u hu;obtain⟨_,_,rfl⟩:=g6.1 hu;rfl
 have a2:(Tryz.prog.info? 304).map (·.size)=some (bV c.toNat).size:=by rw [V];kernel_rfl
 have L:(d.alloc (.cells Tryz.zeroCells304 304)).heap[d.heap.size]?=some (.cells Tryz.zeroCells304 304 (0,0)):=a9 _ _ _ rfl;have X:(Tryz.zeroCells304).size=(bV c.toNat).size:=by rw [V];kernel_rfl
 have Y:=cP _ d.heap.size Tryz.zeroCells304 (bV c.toNat) _ _ L
 have I:Fr w ((d.alloc (.cells Tryz.zeroCells304 304)).setRow d.heap.size (bV c.toNat)):=
  ah.below (G.alloc _) (bC _ _ _) (by simp;have:=G.size;omega) (fun k Z=>by rw [Z];exact G.size)
 generalize aa:(d.alloc (.cells Tryz.zeroCells304 304)).setRow d.heap.size (bV c.toNat)=w2 at *;have bd:w.heap.size<=d.heap.size:=G.size;go_wp2_with (refine bS rfl 304 (.tmp 6) (.tmp 11) rfl d.heap.size (bV c.toNat) rfl rfl 304 Tryz.zeroCells304 L a2 X a0 ?_;rw [aa]);refine(U.out _ (F.fr I) (z.fr I)).mono ?_;rintro e w3 ⟨rfl,M⟩;have O:=I.trans M;have ab:=M.heap Y;have ac:=z.fr O;generalize d.heap.size=r at *;generalize a3:q - i*n=cp;clear a3 aa L X Y I M R U F;generalize bl:w.heap.size=w0 at *;go_wp2_with fail;go_loopw [17] (fun Q wr=>∃ k:Nat,k<=n/\Q=N k/\Ow wr base eB (.slice (some ⟨g,0,none⟩) (n*n) q) (aN n (mL f i c k) (n*n))/\wr.heap[r]?=some (.cells (bV c.toNat) 304 (0,0))/\ah (fun k=>k=g) w wr) (fun Q _=>n - (intOf Q).toNat);case atStart=>exact⟨0,an _,rfl,by rw [IR];exact ac,ab,O.chg _⟩
 case round=>
  clear ac ab O;obtain⟨k,Z,rfl,D,aj,hc⟩:=hrel;by_cases ap:k<n
  · obtain⟨e1,z1⟩:=rT D i k J ap;have a5:mL f i c k i k=f i k:=(by unfold mL;rw [ae (by omega)]);rw [a5]at e1;have av:=D.set Fk.u8 rfl (i*n+k) (by rw [eh];have:=dm n J;rw [iG]at this;omega) (aP c (f i k)) (B8 (aJ c.toNat (f i k).toNat)) (by show Value.int .u8 _=_;rw [kO]);rw [JV n _ _ i k ap,IS]at av;have a6:=(f i k).toNat_lt;generalize (f i k).toNat=x at *;have e3:wr.cell? ⟨r,x,none⟩=some (B8 (aJ c.toNat x)):=(by rw [aA aj];exact Bc c.toNat x a6);generalize aJ c.toNat x=m at *;have bv:(k:Int)<n:=(by omega);have bx:(0:Int)<=k:=(by omega);have b0:(x:Int)<256:=(by omega);have b1:(0:Int)<=x:=(by omega);have a7:g≠r:=(by intro e;omega);go_wp2_with fail;go_roundw;case rel=>exact⟨k+1,by omega,by go_num,av,(ao wr ⟨g,i*n+k,none⟩ _).heap aj (fun e=>a7 e.symm),hc.trans (ao wr ⟨g,i*n+k,none⟩ _) fun _ _ h=>h⟩
    case measure=>simp [intOf];omega
  · have aC:k=n:=(by omega);rw [aC]at D ⊢;rw [IU]at D;have b2:¬((n:Int)<n):=(by omega);go_wp2_with fail;go_end0;exact⟨rfl,D,hc⟩
theorem zR(B o n i k g d base:Nat)(c:UInt8)(f:Nat->Nat->UInt8)(w:World)(F:iV w B o n g d)(m:Ow w base eB (.slice (some ⟨g,0,none⟩) (n*n) d) (aN n f (n*n)))(G:i<n)(K:k<n)(I:n<=255) :
  Calls Tryz.prog 286 #[.pointer (some ⟨B,o,none⟩),N i,.int .u8 (c.toNat:Int),N k] w fun e w'=>e=.returned (.tuple #[])/\Ow w' base eB (.slice (some ⟨g,0,none⟩) (n*n) d) (aN n (gX f i (fun j=>f i j ^^^ aP c (f k j))) (n*n))/\ah (fun k=>k=g) w w':=by
 have a6:g<w.heap.size:=(m.lt g rfl).2;have L:=eh n f (n*n);have a7:n*n<=255*255:=bJ I I;have R:i*n+n<=n*n:=by have:=dm n G;rw [iG]at this;exact this
 have U:=ad (fun W l (F:iV W B o n g d) (m:Ow W base eB (.slice (some ⟨g,0,none⟩) (n*n) d) l) (M:l.length=n*n)=>oh B o n i g d base l W F m M G I);have RK:=ad (fun W l (F:iV W B o n g d) (m:Ow W base eB (.slice (some ⟨g,0,none⟩) (n*n) d) l) (M:l.length=n*n)=>oh B o n k g d base l W F m M K I);have S:=fun i (G:i<n) (W:World) (D:Fr w W)=>(tX (E:=eB) (t:=22) rfl Tryz.underlying22 (m.fr D) (i*n) ((i+1)*n) (by rw [iG];omega) (by rw [L];exact dm n G)).2;have SI:=ad (fun W D=>by have:=S i G W D;rw [rU n f n i G,show(i+1)*n - i*n=n by rw [iG];omega]at this;exact this);have V:=ad (fun W D=>by have:=S k K W D;rw [rU n f n k K,show(k+1)*n - k*n=n by rw [iG];omega]at this;exact this);clear S;have X:=qC n f i;have Y:=qC n f k;have Z:=ad (fun W D=>Fa _ _ (iM n f i) (iM n f k) c.toNat c.toNat_lt W (SI.out W D) (V.out W D) (by rw [X,Y]) (by omega));rw [QC]at Z;have P1:Hid ((aN n f (n*n)).take (i*n)++((List.range n).map (fun j=>f i j ^^^ aP c (f k j))++(aN n f (n*n)).drop (i*n+n))=aN n (gX f i (fun j=>f i j ^^^ aP c (f k j))) (n*n)):=xf n f n i G _;have av:((List.range n).map (fun j=>f i j ^^^ aP c (f k j))).length=n:=by simp
 have J:=ad L;clear L SI V X Y;generalize aN n (gX f i (fun j=>f i j ^^^ aP c (f k j))) (n*n)=z2 at *;generalize (List.range n).map (fun j=>f i j ^^^ aP c (f k j))=q at *;generalize aN n f (n*n)=z at *;have HI:=ad R;clear R;go_enter Tryz.func286, Tryz.ntmps286;go_wp2_with fail;refine(U.out _ _ F m J.out).mono ?_;rintro e w1 ⟨rfl,O⟩;go_wp2_with fail;refine(RK.out _ _ (F.fr O) (m.fr O) J.out).mono ?_;rintro e w3 ⟨rfl,a1⟩;have aa:=O.trans a1;go_wp2_with fail;refine(Z.out _ aa).mono ?_;rintro e w4 ⟨v4,rfl,a2,a3⟩;have Q:=aa.trans a3;go_wp2_with fail;refine(U.out _ _ (F.fr Q) (m.fr Q) J.out).mono ?_;rintro e w5 ⟨rfl,ab⟩;have ac:=Q.trans ab;have a4:0<n:=by omega
 go_wp2_with (refine vR rfl rfl (.tmp 23) (.tmp 24) 22 22 rfl Tryz.underlying22 g (i*n) n _ d _ _ z q rfl rfl (m.fr ac) (a2.fr ab).see av a4 (by rw [J.out];exact HI.out) ?_);intro w6 aj a5;rw [P1.out]at aj;go_wp2_with fail;go_end0;exact⟨rfl,aj,(ac.chg _).trans a5 fun _ _ h=>h⟩
theorem uY(R C:Nat)(a:Option Addr)(d:Nat)(m:R<=255)(hC:C<=255)(w:World) :
  Calls Tryz.prog 265 #[.agg #[N R,N C,.slice a (R*C) d]] w fun e w'=>e=.returned (.bool true)/\Fr w w':=by
 have q:=ad (rH R m);have z:=ad (rH C hC);have I:=vO R C 255 255 m hC (by omega);generalize R*C=L at *;have h:(w.alloc (.cells #[N R,N C,.slice a L d] 172)).heap[w.heap.size]?=some (.cells #[N R,N C,.slice a L d] 172 (0,0)):=a9 _ _ _ rfl;have D:Fr w (w.alloc (.cells #[N R,N C,.slice a L d] 172)):=(Fr.refl w).alloc _;generalize o:w.alloc (.cells #[N R,N C,.slice a L d] 172)=W at *;have J:=af h 0 rfl;have K:=af h 1 rfl;have c2:=af h 2 rfl;have F:=ad o;clear o h;go_enter Tryz.func265, Tryz.ntmps265;go_upto_region 1 with fail;rw [F.out];go_wp2_with fail;refine(q.out _).mono ?_;rintro e G ⟨rfl,rfl⟩;go_wp2_with fail;refine(z.out _).mono ?_;rintro e G ⟨rfl,rfl⟩;go_wp2_with fail;go_ret;exact⟨rfl,D⟩
structure eM (w:World) (B base n g1 cap1 g2 cap2:Nat) (A:Nat->Nat->UInt8):Prop where
 h:w.heap[B]?=some (.cells #[N n,N n,.slice (some ⟨g1,0,none⟩) (n*n) cap1,N n,N n,.slice (some ⟨g2,0,none⟩) (n*n) cap2] 392 (0,0))
 o1:Ow w base eB (.slice (some ⟨g1,0,none⟩) (n*n) cap1) (aN n A (n*n))
 o2:Ow w base eB (.slice (some ⟨g2,0,none⟩) (n*n) cap2) (aN n (fun r j=>A r (n+j)) (n*n))
 ne:g1≠g2
section
variable {w w':World} {B base n g1 cap1 g2 cap2:Nat} {A A':Nat->Nat->UInt8}
theorem eM.n1(h:eM w B base n g1 cap1 g2 cap2 A):B≠g1:=fun e=>h.o1.ne_cells h.h (by decide) (by rw [e];rfl)
theorem eM.n2(h:eM w B base n g1 cap1 g2 cap2 A):B≠g2:=fun e=>h.o2.ne_cells h.h (by decide) (by rw [e];rfl)
theorem eM.w1(h:eM w B base n g1 cap1 g2 cap2 A):iV w B 0 n g1 cap1:=⟨by rw [aA h.h];rfl,by rw [aA h.h];rfl,by rw [aA h.h];rfl⟩
theorem eM.w2(h:eM w B base n g1 cap1 g2 cap2 A):iV w B 3 n g2 cap2:=⟨by rw [aA h.h];rfl,by rw [aA h.h];rfl,by rw [aA h.h];rfl⟩
theorem eM.fr(h:eM w B base n g1 cap1 g2 cap2 A)(d:Fr w w'):eM w' B base n g1 cap1 g2 cap2 A:=⟨d.heap h.h,h.o1.fr d,h.o2.fr d,h.ne⟩
theorem eM.both{d:World}(h:eM w B base n g1 cap1 g2 cap2 A)(o:ah (fun k=>k=g1) w d)(z:Ow d base eB (.slice (some ⟨g1,0,none⟩) (n*n) cap1) (aN n A' (n*n)))(m:ah (fun k=>k=g2) d w')(D:Ow w' base eB (.slice (some ⟨g2,0,none⟩) (n*n) cap2) (aN n (fun r j=>A' r (n+j)) (n*n))) :
  eM w' B base n g1 cap1 g2 cap2 A'/\ah (fun k=>k=g1\/k=g2) w w':=
 ⟨⟨m.heap (o.heap h.h h.n1) h.n2,z.chg m (fun k q e=>by simp [Value.ownBlock]at q;exact h.ne (q.trans e)),D,h.ne⟩,(o.mono fun _ _ h=>.inl h).trans m fun _ _ h=>.inr h⟩
theorem eM.o2'{d:World}(h:eM w B base n g1 cap1 g2 cap2 A)(o:ah (fun k=>k=g1) w d):Ow d base eB (.slice (some ⟨g2,0,none⟩) (n*n) cap2) (aN n (fun r j=>A r (n+j)) (n*n)):=
 h.o2.chg o (fun k m e=>by simp [Value.ownBlock]at m;exact h.ne (e.symm.trans m.symm))
theorem eM.congr(h:eM w B base n g1 cap1 g2 cap2 A)(d:∀ r j,A r j=A' r j):eM w B base n g1 cap1 g2 cap2 A':=by
 have:A=A':=by funext r j;exact d r j
 rw [<- this];exact h
end
theorem NX(S:Nat->Nat->UInt8)(i:Nat):db S i 0=S:=by funext r j;simp [db]
theorem NY(S:Nat->Nat->UInt8)(i k:Nat)(h:k=i\/S k i=0):db S i (k+1)=db S i k:=by
 funext r j;unfold db;by_cases m:r=k
 · subst m;rcases h with h | h;· rw [ae (fun e=>e.2 h),ae (fun e=>e.2 h)]
   · rw [h,qq,oS];simp
 · by_cases d:r<k/\r≠i;· rw [ag ⟨by omega,d.2⟩,ag d]
   · rw [ae (fun e=>d ⟨by omega,e.2⟩),ae d]
theorem Dj(S:Nat->Nat->UInt8)(i k:Nat)(h:k≠i):gX (db S i k) k (fun j=>db S i k k j ^^^ aP (S k i) (db S i k i j))=db S i (k+1):=by
 funext r j;unfold gX;by_cases m:r=k;· subst m;rw [ag rfl];show db S i r r j ^^^ aP (S r i) (db S i r i j)=_;unfold db;rw [ae (by omega),ae (by simp),ag ⟨by omega,h⟩]
 · rw [ae m];unfold db;by_cases d:r<k/\r≠i;· rw [ag d,ag ⟨by omega,d.2⟩]
   · rw [ae d,ae (fun e=>d ⟨by omega,e.2⟩)]
theorem MG(x:UInt8):B8 (mV x.toNat)=.int .u8 ((eH x).toNat:Int):=by
 have h:=CG x.toNat x.toNat_lt;have e:(eH x).toNat=mV x.toNat:=by unfold eH;exact nC _ h
 rw [e]
theorem Pm(B base n i g1 cap1 g2 cap2:Nat)(A:Nat->Nat->UInt8)(w:World)(hP:eM w B base n g1 cap1 g2 cap2 A)(o:i<n)(I:n<=255)(hp:nS A n i) :
  Calls Tryz.prog 270 #[.pointer (some ⟨B,0,none⟩),N i,N i] w fun e w'=>e=.returned (.bool true)/\eM w' B base n g1 cap1 g2 cap2 (ow A n i)/\ah (fun k=>k=g1\/k=g2) w w':=by
 obtain⟨ct,ac,bl,bm⟩:=hp;have HD:Hid (ow A n i=db (lY A n i) i n):=rfl;have HS:Hid (lY A n i=l9 (fT A i (jG A n i)) i (eH (A (jG A n i) i))):=rfl;generalize jG A n i=p at *;generalize ow A n i=A9 at *;have dj:(i:Int)<n:=by omega
 have dr:(0:Int)<=i:=by omega
 go_enter Tryz.func270, Tryz.ntmps270;go_wp2_with fail;go_loopw [7] (fun qv wr=>∃ q:Nat,i<=q/\q<=p/\qv=N q/\Fr w wr) (fun qv _=>p - (intOf qv).toNat);case atStart=>exact⟨i,am _,ct,rfl,Fr.refl w⟩
 case round=>
  obtain⟨q,cv,ds,rfl,m⟩:=hrel;have D:=hP.fr m;have K:=ad (fun W (m:Fr wr W)=>oh B 0 n q g1 cap1 base _ W ((D.w1).fr m) (D.o1.fr m) (eh _ _ _) (by omega) I);have k0:wr.cell? ⟨B,0,none⟩=some (N n):=D.w1.c0;have dv:(q:Int)<n:=(by omega);by_cases c0:q<p
  · have hz:(A q i).toNat=0:=(by rw [bm q cv c0];rfl);have F:=ad (fun W (m:Fr wr W)=>by have:=(rT (D.o1.fr m) q i (by omega) o).1;rw [hz]at this;exact this);generalize bu:cap1 - q*n=cp at *;generalize bv:q*n=pn at *;go_wp2_with fail;refine(K.out _ (Fr.refl _)).mono ?_;rintro e w1 ⟨rfl,J⟩;have c1:=F.out w1 J;go_wp2_with fail;go_roundw;case rel=>exact⟨q+1,by omega,by omega,by go_num,m.trans J⟩
    case measure=>simp [intOf];omega
  · obtain rfl:p=q:=(by omega);have hz:¬((A p i).toNat:Int)=0:=fun e=>bl (eA.1 (by rw [UInt8.toNat_zero];omega));have c5:¬(p:Int)=n:=(by omega);have F:=ad (fun W (m:Fr wr W)=>(rT (D.o1.fr m) p i ac o).1);have b0:=ad (fun W (m:Fr wr W)=>Az B 0 n i p g1 cap1 base A W ((D.w1).fr m) (D.o1.fr m) D.n1 o ac I);clear hP;generalize bu:cap1 - p*n=cp at *;generalize bv:p*n=pn at *;go_wp2_with fail;refine(K.out _ (Fr.refl _)).mono ?_;rintro e w1 ⟨rfl,J⟩;have c1:=F.out w1 J;have k1:=J.cell k0;clear F K k0;go_wp2_with fail;refine(b0.out _ J).mono ?_;rintro e w2 ⟨rfl,b1,V⟩;have O:=D.fr J;have b2:=ad (Az B 3 n i p g2 cap2 base (fun r j=>A r (n+j)) w2 (O.w2.chg V O.n1) (O.o2' V) O.n2 o ac I);clear c1 k1 b0 hz c5;go_wp2_with fail;refine(b2.out).mono ?_;rintro e X ⟨rfl,b3,b4⟩;obtain⟨L,b5⟩:=O.both (A':=fT A i p) V b1 b4 b3;have b6:ah (fun k=>k=g1\/k=g2) wr X:=(J.chg _).trans b5 fun _ _ h=>h;have b7:fT A i p i i=A p i:=(by unfold fT;rw [ag rfl]);clear b2 b1 V b3 b4 b5 O D J;have b8:=ad (oh B 0 n i g1 cap1 base _ X L.w1 L.o1 (eh _ _ _) o I);have a2:=ad (fun W (m:Fr X W)=>(rT (L.o1.fr m) i i o o).1);rw [b7]at a2;have HI:=ad (EG (A p i).toNat (A p i).toNat_lt);obtain⟨er,b9⟩:=CD (A p i).toNat;rw [b9,MG]at HI;have a4:=ad (fun W (m:Fr X W)=>AW B 0 n i g1 cap1 base (eH (A p i)) (fT A i p) W (L.w1.fr m) (L.o1.fr m) o I);have a5:=ad (fun W R (hP:eM W B base n g1 cap1 g2 cap2 (fT A i p)) (G:ah (fun k=>k=g1) W R)=>AW B 3 n i g2 cap2 base (eH (A p i)) (fun r j=>fT A i p r (n+j)) R (hP.w2.chg G hP.n1) (hP.o2' G) o I);clear b9 b7;rw [<- HS.out]at a4;have bA:Hid (l9 (fun r j=>fT A i p r (n+j)) i (eH (A p i))=fun r j=>lY A n i r (n+j)):=(by show _=_;rw [HS.out];rfl);rw [bA.out]at a5;generalize eH (A p i)=cc at *;generalize lY A n i=S at *;generalize fT A i p=A2 at *;generalize (A p i).toNat=ap at *;generalize c9:cap1 - i*n=d4 at *;generalize cA:i*n=d5 at *;clear HS bA bl bm;go_wp2_with fail;refine(b8.out).mono ?_;rintro e w4 ⟨rfl,Q⟩;have c4:=a2.out w4 Q;go_wp2_with fail;refine(HI.out _).mono ?_;rintro e w5 ⟨rfl,rfl⟩;go_wp2_with fail;refine(a4.out _ Q).mono ?_;rintro e w5 ⟨rfl,bL,a6⟩;have bR:=ad (a5.out w4 w5 (L.fr Q) a6);clear a4 a5 b8 a2 HI c4;go_wp2_with fail;refine(bR.out).mono ?_;rintro e w6 ⟨rfl,bT,U⟩;obtain⟨aC,ca⟩:=(L.fr Q).both (A':=S) a6 bL U bT;have cb:ah (fun k=>k=g1\/k=g2) wr w6:=(b6.trans (Q.chg _) fun _ _ h=>h).trans ca fun _ _ h=>h;clear bR bL a6 bT U L Q ca b6 c9 cA bu bv;have k6:w6.cell? ⟨B,0,none⟩=some (N n):=aC.w1.c0;have U:ah (fun k=>k=g1\/k=g2) w w6:=(m.chg _).trans cb fun _ _ h=>h;clear cb m;go_wp2_with fail;go_loopw [84] (fun kv wr=>∃ k:Nat,k<=n/\kv=N k/\eM wr B base n g1 cap1 g2 cap2 (db S i k)/\ah (fun k=>k=g1\/k=g2) w wr) (fun kv _=>n - (intOf kv).toNat);case atStart=>exact⟨0,an _,rfl,aC.congr fun r j=>by rw [NX],U⟩
    case round=>
     clear aC U k6;obtain⟨k,hk,rfl,hP,G⟩:=hrel;by_cases Y:k<n
     · have d7:(k:Int)<n:=(by omega);have K:=ad (oh B 0 n k g1 cap1 base _ wr hP.w1 hP.o1 (eh _ _ _) Y I);have bb:db S i k k i=S k i:=(by unfold db;rw [ae (by omega)]);have F:=ad (fun W (m:Fr wr W)=>(rT (hP.o1.fr m) k i Y o).1);rw [bb]at F;by_cases M:k=i\/S k i=0
       · have cf:=hP.congr (fun r j=>(congrFun (congrFun (NY S i k M) r) j).symm);have bc:(k:Int)=i\/((S k i).toNat:Int)=0:=by
          rcases M with h | h;· exact .inl (by omega)
          · exact .inr (by rw [h];rfl)
         clear M bb hP;generalize (S k i).toNat=d at *;generalize cap1 - k*n=cp at *;generalize k*n=kn at *;go_wp2_with fail;refine(K.out).mono ?_;rintro e Z ⟨rfl,z⟩;have c7:=F.out Z z;clear K F;by_cases cG:(k:Int)=i
         · go_wp2_with fail;go_roundw;case rel=>exact⟨k+1,by omega,by go_num,cf.fr z,G.trans (z.chg _) fun _ _ h=>h⟩
           case measure=>simp [intOf];omega
         · have cj:(d:Int)=0:=(by rcases bc with h | h;exact absurd h cG;exact h);clear bc;go_wp2_with fail;go_roundw;case rel=>exact⟨k+1,by omega,by go_num,cf.fr z,G.trans (z.chg _) fun _ _ h=>h⟩
           case measure=>simp [intOf];omega
       · have bc:¬(k:Int)=i:=fun e=>M (.inl (by omega));have bd:k≠i:=fun e=>M (.inl e);have cj:¬((S k i).toNat:Int)=0:=fun e=>M (.inr (eA.1 (by rw [UInt8.toNat_zero];omega)));have aa:=ad (fun W (m:Fr wr W)=>zR B 0 n k i g1 cap1 base (S k i) (db S i k) W (hP.w1.fr m) (hP.o1.fr m) Y o I);rw [Dj S i k bd]at aa;have ab:=ad (fun W R (hP:eM W B base n g1 cap1 g2 cap2 (db S i k)) (G:ah (fun k=>k=g1) W R)=>zR B 3 n k i g2 cap2 base (S k i) (fun r j=>db S i k r (n+j)) R (hP.w2.chg G hP.n1) (hP.o2' G) Y o I);have ck:Hid (gX (fun r j=>db S i k r (n+j)) k (fun j=>db S i k k (n+j) ^^^ aP (S k i) (db S i k i (n+j)))=fun r j=>db S i (k+1) r (n+j)):=(by show _=_;rw [<- Dj S i k bd];rfl);rw [ck.out]at ab;clear M bd bb ck;generalize (S k i).toNat=d at *;have cL:¬d=0:=fun e=>cj (by omega);have d8:((d:Int) != 0)=true:=(by rw [bne,show((d:Int) == 0)=false from by simpa using cL];rfl);obtain⟨E2,bf⟩:∃ E,E=db S i (k+1):=⟨_,rfl⟩;rw [<- bf]at aa ab;have HE:=ad bf;clear bf;generalize db S i k=E1 at *;generalize cap1 - k*n=cp at *;generalize k*n=kn at *;go_wp2_with fail;refine(K.out).mono ?_;rintro e Z ⟨rfl,z⟩;have c7:=F.out Z z;clear K F;go_wp2_with fail;refine(aa.out _ z).mono ?_;rintro e w8 ⟨rfl,cl,bk⟩;have cm:=ad (ab.out Z w8 (hP.fr z) bk);clear aa ab c7;go_wp2_with fail;refine(cm.out).mono ?_;rintro e w9 ⟨rfl,cn,cq⟩;obtain⟨da,dc⟩:=(hP.fr z).both (A':=E2) bk cl cq cn;clear cm cl bk cn cq;go_wp2_with fail;go_roundw;case rel=>exact⟨k+1,by omega,by go_num,HE.out ▸ da,(G.trans (z.chg _) fun _ _ h=>h).trans dc fun _ _ h=>h⟩
         case measure=>simp [intOf];omega
     · obtain rfl:n=k:=(by omega);rw [<- HD.out]at hP;have dT:¬((n:Int)<n):=(by omega);go_wp2_with fail;go_ret;exact⟨rfl,hP,G⟩
theorem Qr(M:List UInt8)(n:Nat)(d:M.length=n*n):aN n (eo (js M n) n) (n*n)=M:=by
 rw [<- Bw M n n d];conv=>lhs;rw [Bw M n n d]
 refine ug n _ _ _ fun t h=>?_;have m:0<n:=by rcases jU n with e | e;(subst e;simp at h);exact e
 unfold eo;rw [ag (kH t m)]
theorem Qq(M:List UInt8)(n:Nat):aN n (fun r j=>eo (js M n) n r (n+j)) (n*n)=eK n:=by
 unfold eK;refine ug n _ _ _ fun t d=>?_;unfold eo i9;rw [ae (by omega),show n+t % n - n=t % n by omega];by_cases e:t / n=t % n;· rw [ag e,ag e.symm]
 · rw [ae e,ae (fun h=>e h.symm)]
theorem FB(n:Nat)(M:List UInt8)(v:Value)(w:World)(G:ai w eB v M)(d:M.length=n*n)(I:1<=n)(J:n<=255) :
  Calls Tryz.prog 269 #[.agg #[N n,N n,v]] w fun e w'=>∃ B g1 cap1 g2 cap2,e=.returned (.pointer (some ⟨B,0,none⟩))/\eM w' B w.heap.size n g1 cap1 g2 cap2 (eo (js M n) n)/\Fr w w'/\w.heap.size<=B:=by
 have bu:n*n<=255*255:=bJ J J;have bv:1*1<=n*n:=bJ I I;have HC:=ad (fun W (h:Fr w W)=>jT v M W (G.fr h) (by omega));have HM:=ad (fun W=>Ck n I J W);have HL:=ad (Qr M n d);have HR:=ad (Qq M n);have q:(eK n).length=n*n:=eh _ _ _;have a3:=ad q;have a4:M≠[]:=by intro e;subst e;simp at d;omega
 have a5:eK n≠[]:=by intro e;rw [e]at q;simp at q;omega
 obtain⟨a,K,aa,_⟩:=G.shape;rw [d]at aa;subst aa;have ab:=ad d;clear d;clear q;generalize eo (js M n) n=A at *;have ac:(w.alloc (.cells #[N n,N n,.slice a (n*n) K] 172)).heap[w.heap.size]?=some (.cells #[N n,N n,.slice a (n*n) K] 172 (0,0)):=a9 _ _ _ rfl;have L:Fr w (w.alloc (.cells #[N n,N n,.slice a (n*n) K] 172)):=(Fr.refl w).alloc _;go_enter Tryz.func269, Tryz.ntmps269;go_wp2_with fail;refine(HC.out _ L).mono ?_;rintro e O ⟨v1,rfl,z,Q⟩;obtain⟨g1,cap1,rfl,a6,b0,_,_⟩:=z.atHead a4;have D:=Q.heap ac;rw [ab.out]at z;have R:=L.trans Q
 have b1 : g1 ≠ w.heap.size := by have : w.heap.size + 1 ≤ g1 := by simpa using a6
                                  omega
 have aj:=ao O ⟨w.heap.size,2,none⟩ (.slice (some ⟨g1,0,none⟩) (n*n) cap1);have U:=a8 D 2 (.slice (some ⟨g1,0,none⟩) (n*n) cap1);have a7:=al D 2;have aC:=af D 2 rfl;have V:=z.chg aj fun k hk e=>by simp [Value.ownBlock]at hk;have e:k=w.heap.size:=e;omega
 have ak:Fr w (O.setCell ⟨w.heap.size,2,none⟩ (.slice (some ⟨g1,0,none⟩) (n*n) cap1)):=ex R (am _) R.size;rw [ab.out];go_upto_region 2 with fail;have bb:=V.rebase (b:=w.heap.size) (by simp);have b2:=(V.lt g1 rfl).2;generalize O.setCell ⟨w.heap.size,2,none⟩ (.slice (some ⟨g1,0,none⟩) (n*n) cap1)=m at *;have c0:=af U 0 rfl;have c1:=af U 1 rfl;have c2:=af U 2 rfl;generalize X:w.heap.size=b at *;clear aC ac L Q z D aj a7 V G R
 go_region_held3 (fun w' => w'.cell? ⟨b, 0, none⟩ = some (N n) ∧ w'.cell? ⟨b, 1, none⟩ = some (N n) ∧ w'.cell? ⟨b, 2, none⟩ = some (.slice (some ⟨g1, 0, none⟩) (n * n) cap1))
  (first | go_keep)
  ((first
   | (go_at_call 159; refine (HM.out _).mono ?_; rintro e o ⟨v3, rfl, Y, F⟩; rw [CN] at Y; obtain ⟨g2, cap2, ap, bf, b3, _, _⟩ := Y.atHead a5; rw [a3.out] at ap; subst ap; unfold qR; have d0 := F.cell c0; have d1 := F.cell c1; have d2 := F.cell c2)))
 have Z:Fr m o:=(Fr.refl m).drew.trans F;have bk:=ak.trans Z;have bl:=(bb.fr Z).fr ((Fr.refl o).alloc (.cells #[N n,N n,.slice (some ⟨g1,0,none⟩) (n*n) cap1,N n,N n,.slice (some ⟨g2,0,none⟩) (n*n) cap2] 392));have bm:=Y.fr ((Fr.refl o).alloc (.cells #[N n,N n,.slice (some ⟨g1,0,none⟩) (n*n) cap1,N n,N n,.slice (some ⟨g2,0,none⟩) (n*n) cap2] 392));have bs:b<=m.heap.size:=by rw [<- X];exact ak.size
 have b7:m.heap.size<=o.heap.size:=Z.size;have b8:m.heap.size<=g2:=bf;go_wp2_with fail;go_ret;refine⟨o.heap.size,g1,cap1,g2,cap2,rfl,⟨a9 _ _ _ rfl,?_,?_,by omega⟩,bk.alloc _,by omega⟩;· rw [HL.out,X];exact bl
 · rw [HR.out,X];exact bm.rebase bs
theorem Si(n:Nat)(M:List UInt8)(v:Value)(w:World)(hs:ai w eB v M)(hM:M.length=n*n)(h1:1<=n)(I:n<=255)(hG:EK M n) :
  Calls Tryz.prog 243 #[.agg #[N n,N n,v]] w fun e w'=>∃ u,e=.returned (.tuple #[.agg #[N n,N n,u],.int .i64 0])/\Ow w' w.heap.size eB u (nG M n)/\Fr w w':=by
 obtain⟨a,m,aj,_⟩:=hs.shape;rw [hM]at aj;subst aj;have HM:=ad (uY n n a m I I);have O:=ad (fun W (h:Fr w W)=>FB n M _ W (hs.fr h) hM h1 I);have HI:Hid (nG M n=aN n (fun r j=>ix (eo (js M n) n) n n r (n+j)) (n*n)):=rfl;have av:Hid (∀ i,i<n->nS (ix (eo (js M n) n) n i) n i):=hG;have HS:Hid (∀ i,ow (ix (eo (js M n) n) n i) n i=ix (eo (js M n) n) n (i+1)):=fun _=>rfl;have HZ:Hid (ix (eo (js M n) n) n 0=eo (js M n) n):=rfl;rw [<- HZ.out]at O;generalize ix (eo (js M n) n) n=St at *;generalize nG M n=IV at *;clear HZ hG;generalize bd:n*n=d at *;have J:((w.alloc (.cells #[N n,N n,.slice a d m] 172)).alloc (.cells #[.int .i64 0,.int .i64 0,.slice none 0 0] 172)).heap[w.heap.size]?=some (.cells #[N n,N n,.slice a d m] 172 (0,0)):=by rw [ig _ _ _ (by simp),a9 _ _ _ rfl]
 have a3:((w.alloc (.cells #[N n,N n,.slice a d m] 172)).alloc (.cells #[.int .i64 0,.int .i64 0,.slice none 0 0] 172)).heap[w.heap.size+1]?=some (.cells #[.int .i64 0,.int .i64 0,.slice none 0 0] 172 (0,0)):=a9 _ _ _ (by simp);have a4:Fr w ((w.alloc (.cells #[N n,N n,.slice a d m] 172)).alloc (.cells #[.int .i64 0,.int .i64 0,.slice none 0 0] 172)):=((Fr.refl w).alloc _).alloc _;have b1:((w.alloc (.cells #[N n,N n,.slice a d m] 172)).alloc (.cells #[.int .i64 0,.int .i64 0,.slice none 0 0] 172)).heap.size=w.heap.size+2:=by simp
 go_enter Tryz.func243, Tryz.ntmps243;go_upto_region 1 with fail;generalize (w.alloc (.cells #[N n,N n,.slice a d m] 172)).alloc (.cells #[.int .i64 0,.int .i64 0,.slice none 0 0] 172)=w0 at *;have D:=af J 0 rfl;have Q:=af J 1 rfl;have K:=af J 2 rfl;generalize hb:w.heap.size=b at *;go_wp2_with fail;refine(HM.out _).mono ?_;rintro e R ⟨rfl,o⟩;have c0:=o.cell D;have c1:=o.cell Q;have c2:=o.cell K;have U:=a4.trans o;have a6:=o.heap a3;clear D Q K a4 J a3;go_wp2_with fail;refine(O.out _ U).mono ?_;rintro e w2 ⟨B,g1,cap1,g2,cap2,rfl,hP,L,hB⟩;have D:=L.cell c0;have a7:=L.heap a6;have aC:=U.trans L;have b6:b+2<=R.heap.size:=by have:=o.size;omega
 clear c0 c1 c2 a6 o U HM O L;go_wp2_with fail;go_loopw [21] (fun V wr=>∃ i:Nat,i<=n/\V=N i/\eM wr B R.heap.size n g1 cap1 g2 cap2 (St i)/\wr.heap[b+1]?=some (.cells #[.int .i64 0,.int .i64 0,.slice none 0 0] 172 (0,0))/\Fr w wr) (fun V _=>n - (intOf V).toNat);case atStart=>exact⟨0,an _,rfl,hP,a7,aC⟩
 case round=>
  clear hP a7 aC D;obtain⟨i,hi,rfl,hP,z,F⟩:=hrel;by_cases ba:i<n
  · have b8:(i:Int)<n:=(by omega);have X:=ad (Pm B R.heap.size n i g1 cap1 g2 cap2 (St i) wr hP ba I (av.out i ba));rw [HS.out]at X;go_wp2_with fail;refine(X.out).mono ?_;rintro e w3 ⟨rfl,bl,Y⟩;have b9:=(hP.o1.lt g1 rfl).1;have bA:=(hP.o2.lt g2 rfl).1;have bm:=Y.heap z (fun e=>by omega);have bs:Fr w w3:=ah.below F Y F.size (fun k e=>by omega);clear hP z F Y X;go_wp2_with fail;go_roundw;case rel=>exact⟨i+1,by omega,by go_num,bl,bm,bs⟩
    case measure=>simp [intOf];omega
  · obtain rfl:n=i:=(by omega);have bB:¬((n:Int)<n):=(by omega);have D:=hP.w2.c0;have Q:=hP.w2.c1;have K:=hP.w2.c2;have G:=hP.o2;rw [bd]at K G;rw [<- HI.out]at G;have bu:(Tryz.prog.info? 172).map (·.size)=some 3:=(by kernel_rfl);have bv:(#[N n,N n,.slice (some ⟨g2,0,none⟩) d cap2]:Array Value).all (·.oneCell')=true:=(by rw [dP];rfl);have q0:=kE wr (b+1) 0 _ #[N n,N n,.slice (some ⟨g2,0,none⟩) d cap2] _ _ z;have q1:=kE wr (b+1) 1 _ #[N n,N n,.slice (some ⟨g2,0,none⟩) d cap2] _ _ z;have q2:=kE wr (b+1) 2 _ #[N n,N n,.slice (some ⟨g2,0,none⟩) d cap2] _ _ z;have bx:Ow (wr.setRow (b+1) #[N n,N n,.slice (some ⟨g2,0,none⟩) d cap2]) b eB (.slice (some ⟨g2,0,none⟩) d cap2) IV:=(G.chg (bC wr (b+1) _) fun q Z=>by have:=(G.lt q Z).1;show ¬q=b+1;omega).rebase (by omega);have b0:Fr w (wr.setRow (b+1) #[N n,N n,.slice (some ⟨g2,0,none⟩) d cap2]):=ah.below F (bC wr (b+1) _) F.size (fun q Z=>by rw [Z];omega);clear hP HI HS av G;go_wp2_with (refine bS rfl 172 (.tmp 2) (.tmp 35) rfl (b+1) #[N n,N n,.slice (some ⟨g2,0,none⟩) d cap2] rfl rfl 172 _ z bu rfl bv ?_);exact aL (v:=.tuple #[.agg #[N n,N n,.slice (some ⟨g2,0,none⟩) d cap2],.int .i64 0]) (by simp [results,Tryz.results243,go_sem, *]) rfl ⟨_,rfl,bx,b0⟩
def Th(S:Nat->Nat->UInt8)(i k J:Nat):Nat->Nat->UInt8:=fun r c=>if r=k/\c<J then S k c ^^^ aP (S k i) (S i c)else db S i k r c
end Go.Proofs.YtfpijnhhdfoohaaGreatDoor
