/- Parts of the proof of ArchPacks: K3 H1 H2 K6 K5 H3 K7 U4. -/
import Derived.Test.YtdamnfpigajmoaaGreatDoorM26
import Derived.Test.YtdamnfpigajmoaaGreatDoorM18
import Derived.Test.YtdamnfpigajmoaaGreatDoorM11
import Derived.Test.YtdamnfpigajmoaaGreatDoorM17
import Derived.Test.YtdamnfpigajmoaaGreatDoorM09
import Derived.Test.YtdamnfpigajmoaaGreatDoorM14
import Derived.Test.YtdamnfpigajmoaaGreatDoorM19
import Derived.Test.YtdamnfpigajmoaaGreatDoorM25
set_option linter.unusedVariables false
set_option linter.unusedSectionVars false
set_option linter.unusedSimpArgs false
set_option maxHeartbeats 8000000
set_option maxRecDepth 100000
namespace Go.Proofs.YtdamnfpigajmoaaGreatDoor
open Go.RowKit Go.Fk
abbrev nI(d:List UInt8)(s:Nat):Nat->Int:=fun l=>((if l=0 then 0 else bp d l s:Nat):Int)
theorem B1:(#[.int .i64 0,.int .i64 0,.int .i64 0,.int .i64 0,.int .i64 0,.int .i64 0,.int .i64 0,.int .i64 0,.int .i64 0,.int .i64 0,.int .i64 0,.int .i64 0,.int .i64 0,.int .i64 0,.int .i64 0,.int .i64 0,.int .i64 0]:Array Value)=bC 17 (fun _=>0):=rfl
theorem wH(x:Nat):IntKind.u16.wrap (x:Int)=((x % 65536:Nat):Int):=by
 simp only [IntKind.wrap,IntKind.bits,IntKind.signed];simp
theorem Bp (v : Value) (d : List UInt8) (w : World) (G : af w eB v d) (Z : d.length ≤ 300) (a3 : ∀ c ∈ d, c.toNat ≤ 15) :
    Calls Tryz.prog 259 #[v] w fun e w'=>(cH d=true->∃ v',e=.returned (.tuple #[v',.int .i64 0])/\Ow w' w.heap.size eU v' (cg d))/\(cH d=false->e=.returned (.tuple #[.slice none 0 0,.int .i64 7]))/\Fr w w':=by
  obtain⟨a,bc,rfl,d6,cc,d7⟩:=G.shape;unfold maxLen at cc;have U:=ad (vw _ d w G Z a3);have bd:=ad (fun W h=>zS (.slice a d.length bc) d W h Z a3);have a4:(bC 16 (dt d)).size=16:=mD _ _;have bf:=uM 16 (dt d);have bk:(Tryz.prog.info? 379).map (·.size)=some (bC 16 (dt d)).size:=by rw [a4];kernel_rfl
  cases bm:cH d with
  | false=>rw [bm]at U;go_enter Tryz.func259, Tryz.ntmps259;go_wp2_with fail;refine U.out.mono ?_;rintro e w1 ⟨rfl,V⟩;go_wp2_with fail;go_ret2;exact⟨fun h=>by simp at h,fun _=>rfl,V⟩
  | true=>
    rw [bm]at U;go_enter Tryz.func259, Tryz.ntmps259;go_wp2_with fail;refine U.out.mono ?_;rintro e w1 ⟨rfl,V⟩;go_upto_region 4 with fail;have bt:=G.fr V;have bu:=ad (bd.out w1 bt);have bv:∀ l,l<16->(bC 16 (dt d))[l]? = some (.int .i64 (dt d l)):=fun l h=>pF 16 _ l h;have bx:=ad bv;clear bv bd U;generalize bC 16 (dt d)=R at *;go_wp2_with fail;refine bu.out.mono ?_;rintro e o ⟨rfl,bz⟩;have D:(o.alloc (.cells (bC 16 (fun _=>0)) 379)).heap[o.heap.size]? = some (.cells (bC 16 (fun _=>0)) 379 (0,0)):=au _ _ _ rfl;have aa:Fr o (o.alloc (.cells (bC 16 (fun _=>0)) 379)):=(Fr.refl o).alloc _;rw [<- si]at D aa;go_upto_region 5 with(refine gG rfl 379 (.tmp 5) (.tmp 20) rfl o.heap.size R rfl rfl 379 _ D bk (by rw [a4];rfl) bf ?_);have K:=kG _ o.heap.size _ R 379 (0,0) D;have b0:Fr o (World.setRow _ o.heap.size R):=ak.below aa (fP _ o.heap.size R) aa.size (fun k hk=>gZ hk.symm);generalize ch:World.setRow _ o.heap.size R=z at *;clear ch D aa bf bk a4 bu;have L:=(V.trans bz).trans b0;have hB:(z.alloc (.cells (bC 17 (fun _=>0)) 383)).heap[z.heap.size]? = some (.cells (bC 17 (fun _=>0)) 383 (0,0)):=au _ _ _ rfl;have M:Fr z (z.alloc (.cells (bC 17 (fun _=>0)) 383)):=(Fr.refl z).alloc _;have ab:cq (z.alloc (.cells (bC 17 (fun _=>0)) 383)) z.heap.size 383 17 (fun j=>if j<=1 then((dz d j:Nat):Int)else 0):=by
      unfold cq; rw [hB, uN (f' := fun j => if j ≤ 1 then ((dz d j : Nat) : Int) else 0) fun j _ => by
        show (0 : Int) = _;by_cases h : j ≤ 1;· rw [ai h];have : j = 0 ∨ j = 1 := (by omega);rcases this with rfl | rfl <;> rfl
        · rw [ah h]]
    have h3:=M.heap K;have d8:o.heap.size<z.heap.size:=(aR.1 K).1;rw [<- B1]at M ab h3;clear hB K;go_upto_region 6 with fail;generalize cj:z.alloc (.cells _ 383)=w4 at *;clear cj;have HN:Hid (∀ W,ak (fun k=>k=z.heap.size) w4 W->∀ l,l<16->W.cell? ⟨o.heap.size,l,none⟩=some (.int .i64 (dt d l))):=fun W h l hl=>by rw [aL (h.heap h3 (by omega))];exact bx.out l hl
    have cp:Hid (∀ W,ak (fun k=>k=z.heap.size) w4 W->af W eB (.slice a d.length bc) d):=fun W h=>
      G.fr (ak.below (L.trans M) h (L.trans M).size (fun i hi=>by rw [hi];exact L.size))
    have a5:Fr w w4:=L.trans M;have cs:=L.size;have ct:=ab.lt;have cv:=ad (fun l=>zq d l);have cx:=ad (fun l h=>rk d l h);have cy:=ad (fun l=>lM d l);clear bx h3 G bt V bz b0 L M;generalize hg:z.heap.size=g at *;clear hg;go_wp2_with fail;go_loopw [8] (fun I wr=>∃ l:Nat,1<=l/\l<=16/\I=N l/\cq wr g 383 17 (fun j=>if j<=l then((dz d j:Nat):Int)else 0)/\ak (fun k=>k=g) w4 wr) (fun I _=>16 - (intOf I).toNat);case atStart=>exact⟨1,ag _,by omega,rfl,ab,ak.refl _ _⟩
    case round=>
      clear ab;obtain⟨l,c1,d9,rfl,y,A⟩:=hrel;by_cases b2:l<16
      · have dT:(l:Int)<16:=(by omega);have e1:wr.cell? ⟨g,l,none⟩=some (.int .i64 ((dz d l:Nat):Int)):=y.cell' l (by omega) (ai (ag _));have e2:wr.cell? ⟨o.heap.size,l,none⟩=some (.int .i64 ((aF d l:Nat):Int)):=(by have:=HN.out wr A l b2;rw [this];simp [dt];omega);have e3:=y.frozen (l+1);have e4:=y.cell (l+1) (by omega);have ef:dz d l<=40000000:=(by have K:=cv.out l;have O:(2:Nat) ^ (l+1)<=65536*2:=aq (eC (by omega) (show l+1<=17 by omega)) (by decide);have h3:d.length*2 ^ (l+1)<=300*(65536*2):=b7 Z O;omega);have ek:=cy.out l;have b3:=ad (y.set (l+1) (((2*(dz d l+aF d l):Nat)):Int));have c6:Hid (cq (wr.setCell ⟨g,l+1,none⟩ (.int .i64 (((2*(dz d l+aF d l):Nat)):Int))) g 383 17 (fun j=>if j<=l+1 then((dz d j:Nat):Int)else 0)):=b3.out.congr fun j hj=>by
          show(if j=l+1 then _ else if j<=l then _ else _)=_;by_cases h:j=l+1;· subst h;rw [ai rfl,ai (ag _),cx.out l c1]
          · rw [ah h];by_cases O:j<=l;· rw [ai O,ai (by omega)]
            · rw [ah O,ah (by omega)]
        clear b3;generalize dz d l=Q at *;generalize aF d l=T at *;have i1:(0:Int)<=l:=(by omega);have i2:l<16:=b2;have i3:(0:Int)<=(l:Int)+1:=(by omega);have i4:(l:Int)+1<17:=(by omega);have i5:(l:Int)<17:=(by omega);have er:IntKind.i64.wrap ((Q:Int)+T)=((Q+T:Nat):Int):=(by rw [ar _ (by omega)];omega);have es:IntKind.i64.wrap (((Q+T:Nat):Int)*2)=((2*(Q+T):Nat):Int):=(by rw [ar _ (by omega)];omega);generalize cG:2*(Q+T)=mu at *;generalize dc:Q+T=su at *;have e0:mu<=90000000:=(by omega);have e5:o.heap.size≠g:=(by omega);clear cG dc;go_upto_region 9 with fail;go_region;all_goals go_wp2_with fail
        all_goals go_roundw
        case rel=>exact⟨l+1,by omega,by omega,by go_num,c6.out.fr (Fr.drew (Fr.refl _)),A.trans ((aw wr ⟨g,l+1,none⟩ _).trans ((Fr.drew (Fr.refl _)).chg (fun k=>k=g)) (fun _ _ h=>h)) (fun _ _ h=>h)⟩
        case measure=>simp [intOf];omega
      · obtain rfl:l=16:=(by omega);have e6:¬(16:Int)<16:=(by omega);have av:cq wr g 383 17 (nI d 0):=y.congr fun j hj=>by
          show(if j<=16 then _ else _)=_;rw [ai (by omega)];show((dz d j:Nat):Int)=((if j=0 then 0 else bp d j 0:Nat):Int);by_cases h:j=0;· subst h;rfl
          · rw [ah h,sA]
        have dd:=mw eU rfl rfl 227 Tryz.underlying227 .i64 .i64 d.length (by omega);have b4:=ad (my (base:=w4.heap.size) eU rfl rfl d.length (by omega) wr A.size);have a7:Fr wr (wr.alloc (.cells (madeCells #[eU.z] d.length) eU.e)):=(Fr.refl wr).alloc _;have b5:=av.fr a7;have b8:=A.trans (a7.chg (fun k=>k=g)) (fun _ _ h=>h);have e7:=A.size;have a0:=gU d;have di:=ad (fun s h=>py d s h);have dj:=ad (fun l s h=>qk d l s h);have dk:=ad (fun l s h=>wC d l s h Z);rw [show(eU:al Tryz.prog Nat).e=231 from rfl]at *;generalize madeCells #[eU.z] d.length=T0 at *;go_wp2_with fail;generalize dr:wr.alloc (.cells T0 231)=w5 at *;clear dr a7 y av A;generalize ds:wr.heap.size=q at *;clear ds;have bA:=b4.out;clear b4 dd;go_loopw [42] (fun I wr=>∃ s:Nat,s<=d.length/\I=N s/\cq wr g 383 17 (nI d s)/\Ow wr w4.heap.size eU (.slice (some ⟨q,0,none⟩) d.length d.length) ((cg d).take s++List.replicate (d.length - s) 0)/\ak (fun k=>k=g) w4 wr) (fun I _=>d.length - (intOf I).toNat);case atStart=>exact⟨0,ap _,rfl,b5,by simp only [gH,gI,Nat.sub_zero];exact bA,b8⟩
        case round=>
          clear b5 b8 bA;obtain⟨s,G,rfl,y,J,A⟩:=hrel;by_cases F:s<d.length
          · obtain⟨b,fa,fb,hv,c0⟩:=(cp.out wr A).cell1 (fun c=>Fk.u8 c) rfl s F;have fd:=a3 _ (aH F);have a1:=ad (di.out s F);have X:=ad (fun l=>dj.out l s F);have hz:d[s]=0↔d[s].toNat=0:=⟨fun e=>by rw [e];rfl,fun e=>gq.1 (by simpa using e)⟩;generalize d[s]=c at *;cases hv;have bR:((cg d).take s++List.replicate (d.length - s) 0).length=d.length:=rq _ _ _ _ a0 G;have a2:=ad (fun x hx=>rp (cg d) 0 d.length s a0 F x hx);generalize fk:c.toNat=m at *;have i1:(0:Int)<=s:=(by omega);have i2:(s:Int)<d.length:=(by omega);by_cases Y:m=0
            · have d3:¬(0:Int)<m:=(by omega);have av:cq wr g 383 17 (nI d (s+1)):=y.congr fun j hj=>by
                show((if j=0 then 0 else bp d j s:Nat):Int)=((if j=0 then 0 else bp d j (s+1):Nat):Int);by_cases h:j=0;· rw [ai h,ai h]
                · rw [ah h,ah h,X.out j,ah (by omega)];rfl
              have ba:Hid (Ow wr w4.heap.size eU (.slice (some ⟨q,0,none⟩) d.length d.length) ((cg d).take (s+1)++List.replicate (d.length - (s+1)) 0)):=(by have K:=a2.out 0 (by rw [a1.out,ai (hz.2 Y)]);show Ow _ _ _ _ _;rw [<- K];have O:((cg d).take s++List.replicate (d.length - s) 0).set s 0=(cg d).take s++List.replicate (d.length - s) 0:=(by rw [List.set_append_right _ _ (by rw [aV];omega),show d.length - s=(d.length - (s+1))+1 by omega,vM];have:s - ((cg d).take s).length=0:=(by rw [aV];omega);rw [this];rfl);rw [O];exact J);clear a2 a1 X J y;subst Y;go_wp2_with fail;go_roundw;case rel=>exact⟨s+1,by omega,by go_num,av,ba.out,A⟩
              case measure=>simp [intOf];omega
            · have d3:(0:Int)<m:=(by omega);have fm:=dk.out m s (by omega);have e1:wr.cell? ⟨g,m,none⟩=some (.int .i64 ((bp d m s:Nat):Int)):=y.cell' m (by omega) (by simp [nI,Y]);have e2:=y.frozen m;obtain⟨d1,d2⟩:=J.cellAt (fun n:Nat=>Value.int .u16 (n:Int)) rfl s (by rw [bR];exact F);have bb:=ad (J.set (fun n:Nat=>Value.int .u16 (n:Int)) rfl s (by rw [bR];exact F) (bp d m s % 65536) (.int .u16 ((bp d m s % 65536:Nat):Int)) rfl);have ca:(cg d)[s]'(by rw [a0];exact F)=bp d m s % 65536:=(by rw [a1.out,ah (fun e=>Y (hz.1 e))]);rw [a2.out _ ca]at bb;have cb:=ad ((y.chg (aw wr ⟨q,s,none⟩ (.int .u16 ((bp d m s % 65536:Nat):Int))) (by show ¬g=q;omega)).set m (((bp d m s:Nat):Int)+1));have d4:Hid (cq ((wr.setCell ⟨q,s,none⟩ (.int .u16 ((bp d m s % 65536:Nat):Int))).setCell ⟨g,m,none⟩ (.int .i64 (((bp d m s:Nat):Int)+1))) g 383 17 (nI d (s+1))):=cb.out.congr fun j hj=>by
                show(if j=m then _ else((if j=0 then 0 else bp d j s:Nat):Int))=((if j=0 then 0 else bp d j (s+1):Nat):Int);by_cases h:j=m;· rw [ai h,ah (by omega),X.out j,ai h.symm,h];rfl
                · rw [ah h];by_cases D:j=0;· rw [ai D,ai D]
                  · rw [ah D,ah D,X.out j,ah (eT h)];rfl
              have ba:=ad (et (r:=g) (i:=m) (u:=.int .i64 (((bp d m s:Nat):Int)+1)) bb.out ct)
              have d5:Hid (ak (fun k=>k=g) w4 ((wr.setCell ⟨q,s,none⟩ (.int .u16 ((bp d m s % 65536:Nat):Int))).setCell ⟨g,m,none⟩ (.int .i64 (((bp d m s:Nat):Int)+1)))):=
                (A.trans (aw wr ⟨q,s,none⟩ _) (fun i hi e=>by exfalso;have:i=q:=e;omega)).trans (aw _ ⟨g,m,none⟩ _) (fun _ _ h=>h)
              have hu:=wH (bp d m s)
              have e3:(wr.setCell ⟨q,s,none⟩ (.int .u16 ((bp d m s % 65536:Nat):Int))).cell? ⟨g,m,none⟩=some (.int .i64 ((bp d m s:Nat):Int)):=
                ((y.chg (aw wr ⟨q,s,none⟩ (.int .u16 ((bp d m s % 65536:Nat):Int))) (by show ¬g=q;omega))).cell' m (by omega) (by simp [nI,Y])
              clear bb cb a2 X a1 y J A ca;generalize bp d m s % 65536=vm at *;generalize bp d m s=vv at *;have i3:(0:Int)<=m:=(by omega);have i4:(m:Int)<17:=(by omega);have i5:m<17:=(by omega);have i6:q≠g:=(by omega);have i7:g≠q:=(by omega);go_wp2_with fail;go_roundw;case rel=>exact⟨s+1,by omega,by go_num,d4.out,ba.out,d5.out⟩
              case measure=>simp [intOf];omega
          · obtain rfl:s=d.length:=(by omega);have f3:¬(d.length:Int)<d.length:=(by omega);have e:(cg d).take d.length++List.replicate (d.length - d.length) 0=cg d:=(by rw [e8,List.replicate_zero,dm,<- a0,cu]);rw [e]at J;go_wp2_with fail;go_ret2;refine⟨⟨_,rfl,J.rebase a5.size⟩,ak.below a5 A a5.size (fun i hi=>by rw [hi];exact cs)⟩
structure gX (w:World) (base g:Nat) (lens:List UInt8) (s:Nat) (c:Nat->Value):Prop where
 arr:en w g 293 50 c
 own0:Ow w base eB (c 0) lens
 own1:Ow w base eU (c 1) (cg lens)
 first:∀ l,1<=l->l<16->c (2+l)=N (fM lens s l)
 many:∀ l,1<=l->l<16->c (18+l)=N (aF (lens.take s) l)
 syms:∀ l,1<=l->l<16->Ow w base eJ (c (34+l)) (sM lens s l)
 apart:∀ j k,1<=j->j<16->1<=k->k<16->j≠k->(c (34+j)).ownBlock=none\/(c (34+j)).ownBlock≠(c (34+k)).ownBlock
 up:base<=g
theorem Gt{G w I w4:World}{base g s d:Nat}{q:List UInt8}{c c2:Nat->Value}{v':Value}(m:gX w base g q s c)(X:Fr G w)(aa:G.heap.size<=base)(hg:base<=g)(R:s<q.length)(T:q[s].toNat=d)(Y:1<=d)(Z:d<16)
  (hA:en I g 293 50 c2) (hch:ak (fun k=>k=g) w I) (e1:c2 (2+d)=N (dz q d % 65536)) (e2:c2 (18+d)=N (aF (q.take s) d+1))
  (e3:∀ i,i≠2+d->i≠18+d->c2 i=c i) (hap:cQ base eJ (sM q s d++[s]) I (c (34+d)) v' w4) :
  gX (w4.setCell ⟨g,34+d,none⟩ v') base g q (s+1) (fun j=>if j=34+d then v' else c2 j)/\Fr G (w4.setCell ⟨g,34+d,none⟩ v'):=by
 have ac:=m.syms d Y Z;have D:=ac.keepG m.arr (by decide) hch;have F:en w4 g 293 50 c2:=hA.chg hap.chg' (fun e=>D.ne_cells hA (by decide) e);have J:ak (fun k=>k=g) w4 (w4.setCell ⟨g,34+d,none⟩ v'):=aw w4 ⟨g,34+d,none⟩ v';have av:(c (34+d)).ownBlock≠some g:=D.ne_cells hA (by decide);refine⟨⟨F.set _ _,?_,?_,?_,?_,?_,?_,hg⟩,?_⟩;· rw [ah (by omega),e3 0 (by omega) (by omega)];have o:=m.own0.keepG m.arr (by decide) hch;exact(hap.other o (iB o D (by decide))).keepG F (by decide) J
 · rw [ah (by omega),e3 1 (by omega) (by omega)];have o:=m.own1.keepG m.arr (by decide) hch;exact(hap.other o (iB o D (by decide))).keepG F (by decide) J
 · intro l z A;rw [ah (by omega),zw q s l R,T];by_cases e:l=d;· subst e;rw [ai rfl,e1]
   · rw [ah (fun h=>e h.symm),e3 _ (by omega) (by omega)];exact m.first l z A
 · intro l z A;rw [ah (by omega),m8 q s l R,T];by_cases e:l=d;· subst e;rw [ai rfl,e2]
   · rw [ah (fun h=>e h.symm),e3 _ (by omega) (by omega)];exact m.many l z A
 · intro l z A;rw [ti q s l R,T];by_cases e:l=d;· subst e;rw [ai rfl,ai rfl];exact hap.own.keepG F (by decide) J
   · rw [ah (by omega),ah (fun h=>e h.symm),dm,e3 _ (by omega) (by omega)];have o:=(m.syms l z A).keepG m.arr (by decide) hch;exact(hap.other o (m.apart l d z A Y Z e)).keepG F (by decide) J
 · intro j k K L M O U;by_cases e:j=d
   · subst e;rw [ai rfl,ah (by omega),e3 _ (by omega) (by omega)]
     cases V:v'.ownBlock with
     | none=>exact .inl rfl
     | some b=>
      refine .inr fun Q=>?_;rcases hap.fresh b V with h | h
      · rcases m.apart j k K L M O U with y | y;· rw [y]at h;cases h
        · exact y (h.trans Q)
      · have o:=(m.syms k M O).keepG m.arr (by decide) hch;have:=(o.lt b Q.symm).2;omega
   · rw [ah (by omega),e3 _ (by omega) (by omega)];by_cases e':k=d
     · subst e';rw [ai rfl]
       cases V:v'.ownBlock with
       | none=>
        cases a0:(c (34+j)).ownBlock with
        | none=>exact .inl rfl
        | some b=>exact .inr (by simp)
       | some b=>
        rcases hap.fresh b V with h | h
        · rcases m.apart j k K L M O U with y | y;· exact .inl y
          · exact .inr (by rw [<- h];exact y)
        · refine .inr fun Q=>?_;have o:=(m.syms j K L).keepG m.arr (by decide) hch;have:=(o.lt b Q).2;omega
     · rw [ah (by omega),e3 _ (by omega) (by omega)];exact m.apart j k K L M O U
 · have o:Fr G I:=ak.below X hch X.size (fun i e=>by omega);exact db (hap.below D o aa o.size) (by omega) (aq o.size hap.size)
def kz(u v:Value)(i:Nat):Value:=if i=0 then u else if i=1 then v else if i<34 then N 0 else .slice none 0 0
theorem Lh (v : Value) (d : List UInt8) (w : World) (M : af w eB v d) (hn : d.length ≤ 300) (b0 : ∀ c ∈ d, c.toNat ≤ 15) (dd : cH d = true) :
    Calls Tryz.prog 216 #[v] w fun e w'=>∃ g c,e=.returned (.tuple #[.pointer (some ⟨g,0,none⟩),.int .i64 0])/\gX w' w.heap.size g d d.length c/\Fr w w':=by
  have HC:=ad (Bp _ d w M hn b0);have HS:=ad (fun W (h:Fr w W)=>M.fr h);obtain⟨a,dj,rfl,gc,dk,ge⟩:=M.shape;unfold maxLen at dk;clear M;have dl:=ad (fun W (h:af W eB _ d)=>mH (.slice a d.length dj) d W h (by omega));go_enter Tryz.func216, Tryz.ntmps216;go_wp2_with fail;refine HC.out.mono ?_;rintro e w1 ⟨ht,_,O⟩;obtain⟨cv,rfl,b4⟩:=ht dd;obtain⟨ca,cc,bA⟩:=b4.shape';rw [gU]at bA;subst bA;have ds:=ad (dl.out w1 (HS.out w1 O));go_wp2_with fail;refine ds.out.mono ?_;rintro e y ⟨lv,rfl,bB,Y⟩;obtain⟨la,lc,dv⟩:=bB.shape';subst dv;go_wp2_with fail;go_loopw [25] (fun Z wr=>∃ (s:Nat) (c:Nat->Value),s<=d.length/\Z=N s/\gX wr w.heap.size y.heap.size d s c/\Hid (c 0=.slice la d.length lc/\c 1=.slice ca d.length cc)/\Fr w wr) (fun Z _=>d.length - (intOf Z).toNat)
  case atStart=>
    refine⟨0,kz (.slice la d.length lc) (.slice ca d.length cc),ap _,rfl,⟨?_,?_,?_,?_,?_,?_,?_,?_⟩,⟨rfl,rfl⟩,((O.trans Y).alloc _)⟩;· exact au _ _ _ rfl
    · exact(bB.rebase O.size).fr ((Fr.refl y).alloc _)
    · exact(b4.fr Y).fr ((Fr.refl y).alloc _)
    · intro l A D;rw [GI];unfold kz;rw [ah (by omega),ah (by omega),ai (by omega)]
    · intro l A D;rw [gH,nN];unfold kz;rw [ah (by omega),ah (by omega),ai (by omega)]
    · intro l A D;rw [D9];unfold kz;rw [ah (by omega),ah (by omega),ah (by omega)];exact Ow.nil
    · intro j k A D _ _ _;unfold kz;rw [ah (by omega),ah (by omega),ah (by omega)];exact .inl rfl
    · exact aq O.size Y.size
  case round=>
    obtain⟨s,c,d0,rfl,z,Q,K⟩:=hrel;by_cases F:s<d.length
    · obtain⟨b,d1,g0,hv,c0⟩:=gE (HS.out wr K) s F;have g1:=b0 _ (aH F);have hz:=ad (kM d[s]);have ac:=ad (fun l=>m8 d s l F);have cf:=ad (fun l=>ti d s l F);have aj:=ad (fun l=>zw d s l F);have av:=ad (GG d s F);have ch:=ad (GF d s);generalize hc:d[s]=x at *;cases hv;replace c0:wr.cell? ⟨b,d1+s,none⟩=some (.int .u8 ((x.toNat:Nat):Int)):=c0;generalize a0:x.toNat=o at *;have i1:(0:Int)<=s:=(by omega);have i2:(s:Int)<d.length:=(by omega);by_cases hx:o=0
      · subst hx;have HN:Hid (gX wr w.heap.size y.heap.size d (s+1) c):=by
          refine⟨z.arr,z.own0,z.own1,fun l A D=>?_,fun l A D=>?_,fun l A D=>?_,z.apart,z.up⟩;· rw [aj.out,ah (by omega)];exact z.first l A D
          · rw [ac.out,ah (by omega)];exact z.many l A D
          · rw [cf.out,ah (by omega),dm];exact z.syms l A D
        clear ac cf aj av ch hz a0;go_wp2_with fail;go_roundw;case rel=>exact⟨s+1,c,by omega,by go_num,HN.out,Q,K⟩
        case measure=>simp [intOf];omega
      · have i3:(0:Int)<o:=(by omega);have i4:(o:Int)<16:=(by omega);have i5:¬(o:Int)=0:=(by omega);have R:o<16:=(by omega);have d5:x≠0:=fun e=>hx (hz.out.1 e);have a7:=ad z;have d6:=ad (show d[s].toNat=o by rw [hc,a0]);clear hz a0;obtain⟨I,cj,ba,hF,hM,cl,cm,d7⟩:=z;have g8:((o:Int) == 0)=false:=(by simp [hx]);have co:c (18+o)=N (aF (d.take s) o):=hM o (by omega) R;have cp:c (2+o)=N (fM d s o):=hF o (by omega) R;have bc:=I.cell (18+o) (by omega) co;have f2:=I.frozen (2+o);have k2:=I.cell (2+o) (by omega) cp;have bd:=ba.see;rw [Q.out.2]at bd;have bf:s<(cg d).length:=(by rw [gU];exact F);obtain⟨b1,ec,g9,cs,G⟩:=bd.cell1 (fun n=>Value.int .u16 (n:Int)) rfl s bf;have gA:=uz d s bf;have ef:IntKind.i64.wrap (((cg d)[s]:Nat):Int)=(((cg d)[s]:Nat):Int):=ar _ (by omega);have bk:=ad (fun h=>av.out d5 h);generalize hq:(cg d)[s]=q at *;rw [gU]at cs;cases cs;replace G:wr.cell? ⟨b1,ec+s,none⟩=some (.int .u16 (q:Int)):=G;have gB:=lM (d.take s) o;have gO:(d.take s).length<=300:=(by rw [aV];omega);have er:=ad (ac.out o);have es:=ad (aj.out o);have bn:=ad (ch.out o);clear hq av bf;generalize hm:aF (d.take s) o=m at *;generalize fM d s o=f at *;have HA:=ad I;have HH:=ad (And.intro cj (And.intro ba (And.intro hF (And.intro hM (And.intro cl cm)))));have e1:=ad hm;clear cj ba hF hM cl cm bd hm;have e2:((m:Int) == 0)=decide (m=0):=(by by_cases h:m=0 <;> simp [h]);have cx:Hid (decide (m=0)=true->m=0):=fun h=>(by simpa using h);have cy:Hid (decide (m=0)=false->m≠0):=fun h=>(by simpa using h);generalize decide (m=0)=bm at *;go_upto_if 38 with fail;go_cut []from 39 to 48 (fun wx=>∃ G,en wx y.heap.size 293 50 G/\G (2+o)=N (dz d o % 65536)/\(∀ i,i≠2+o->G i=c i)/\ak (fun k=>k=y.heap.size) wr wx)
        case first=>
          cases bm;· have bt:=ad (bn.out (cy.out (by first | rfl | trivial)));go_wp2_with fail;go_meet;exact⟨c,I,by rw [cp,bt.out],fun _ _=>rfl,ak.refl _ _⟩
          · have bt:=ad (bk.out (cx.out (by first | rfl | trivial)));clear bk es bn er;go_wp2_with fail;go_region;all_goals go_wp2_with fail
            all_goals go_meet
            exact⟨_,(I.set (2+o) (.int .i64 (q:Int))).drew,by rw [ai rfl,bt.out],fun i hi=>ah hi,(aw wr ⟨_,2+o,none⟩ _).trans ((Fr.drew (Fr.refl _)).chg (fun k=>k=y.heap.size)) (fun _ _ h=>h)⟩
        case rest=>
          generalize e7:wc=wd at *;clear e7;obtain⟨G,T,e9,L,c3⟩:=hcut;clear bk bn cx cy f2 k2 bc ef e2;have fa:G (18+o)=N m:=(by rw [L _ (by omega),co]);have bc:=T.cell (18+o) (by omega) fa;have fb:=T.frozen (18+o);have ha:IntKind.i64.wrap ((m:Int)+1)=((m+1:Nat):Int):=(by rw [ar _ (by omega)];omega);have U:=ad ((T.set (18+o) (.int .i64 ((m:Int)+1))).drew);have bv:Hid (ak (fun k=>k=y.heap.size) wr (wd.setCell ⟨y.heap.size,18+o,none⟩ (.int .i64 ((m:Int)+1))).drew):=(c3.trans (aw wd ⟨_,18+o,none⟩ _) (fun _ _ h=>h)).trans ((Fr.drew (Fr.refl _)).chg (fun k=>k=y.heap.size)) (fun _ _ h=>h);go_upto_region 11 with fail;go_region;all_goals go_wp2_with fail
          generalize fc:(wd.setCell ⟨y.heap.size,18+o,none⟩ (.int .i64 ((m:Int)+1))).drew=J at *;clear fc bc fb T c3 c0;have fd:=ad (fun c2 v' w4 a1 a2 a3 a4 (a5:en J y.heap.size 293 50 c2)=>Gt (w4:=w4) (v':=v') (c2:=c2) a7.out K (ag _) d7 F d6.out (by omega) R a5 bv.out a1 a2 a3 a4);have c4:=a7.out.syms o (by omega) R;have c5:=DA d s o d0;have fs:=lM (d.take s) o;have V:=c4.keepG a7.out.arr (by decide) bv.out;obtain⟨sa,sc,bx⟩:=V.shape';have c6:J.cell? ⟨y.heap.size,34+o,none⟩=some (c (34+o)):=U.out.cell (34+o) (by omega) (by rw [ah (by omega),L _ (by omega)]);have hD:=V.drew;have c8:w.heap.size<=J.heap.size:=aq K.size bv.out.size;have fv:Hid (w.heap.size<=J.drew.heap.size):=c8;have c9:Fr J (J.alloc (.cells #[.int .i64 (s:Int)] 3)):=(Fr.refl J).alloc _;have f0:=c9.cell c6;have f1:Hid ((sM d s o).length+[s].length<=2147483648):=(by show _<=_;rw [c5];simp;omega);have cA:=V.ne_cells U.out (by decide);have f3:=U.out;rw [bx]at hD c6 f0 cA;have f4:=ad bx;generalize he:sM d s o=m9 at *;clear c9 c4 V c5 fs bx c8 HA HH I;go_upto_region 12 with fail
          go_region_law (refine oD eJ rfl (.tmp 66) (.tmp 68) 57 rfl Tryz.underlying57 w.heap.size rfl hD [s] _ _ _ rfl rfl rfl f1.out fv.out ?_
                         intro v' w4 X
                         have f5 := X.own
                         have cF := ad X
                         obtain ⟨va, vc, f9⟩ := f5.shape'
                         have k0 := f3.chg X.chg' (fun e => cA e)
                         have e3 := k0.cell (34 + o) (by omega) rfl
                         have e4 := k0.frozen (34 + o)
                         clear X
                         subst f9)
          all_goals (go_wp2_with fail
                     rw [show (m9 ++ [s]).length = m9.length + 1 by simp] at cF
                     have da := fd.out _ (.slice va (m9.length + 1) vc) w4 (by rw [ah (by omega), e9]) (by rw [ai rfl, e1.out]; rfl) (fun i j1 j2 => by rw [ah j2, L i j1]) (by rw [f4.out]; exact cF.out) U.out
                     go_roundw
                     case rel => exact ⟨s + 1, _, by omega, by go_num, da.1, ⟨by rw [ah (by omega), ah (by omega), L _ (by omega)]; exact Q.out.1, by rw [ah (by omega), ah (by omega), L _ (by omega)]; exact Q.out.2⟩, da.2⟩
                     case measure => simp [intOf]; omega)
    · obtain rfl:s=d.length:=(by omega);have hj:¬(d.length:Int)<d.length:=(by omega);go_wp2_with fail;go_ret2;exact⟨_,rfl,⟨c,z⟩,K⟩
theorem Lg(v:Value)(d:List UInt8)(w:World)(h:af w eB v d)(m:d.length<=300)(o:∀ c∈d,c.toNat<=15)(q:cH d=false) :
  Calls Tryz.prog 216 #[v] w fun e w'=>e=.returned (.tuple #[.pointer none,.int .i64 7])/\Fr w w':=by
 have y:=ad (Bp _ d w h m o);clear h;go_enter Tryz.func216, Tryz.ntmps216;go_wp2_with fail;refine y.out.mono ?_;rintro e D ⟨_,z,A⟩;obtain rfl:=z q;go_wp2_with fail;go_ret2;exact⟨rfl,A⟩
theorem Gu(d:List UInt8)(base g n s:Nat)(c:Nat->Value)(w:World)(h:gX w base g d n c)(G:d.length<=300)(I:s<=1000000) :
  Calls Tryz.prog 260 #[.pointer (some ⟨g,0,none⟩),N s] w fun e w'=>e=.returned (N (eH d s))/\w'=w:=by
 have m:=h.own0.see;obtain⟨a,J,o,K,z,L⟩:=m.shape;have M:=h.arr.cell 0 (by omega) o;unfold maxLen at z;have O:¬(s:Int)<0:=by omega
 by_cases q:s<d.length;· rw [o]at m;obtain⟨b,A,Q,D,y⟩:=gE m s q;cases D;rw [oB d s q];generalize d[s]=x at *;replace y:w.cell? ⟨b,A+s,none⟩=some (.int .u8 ((x.toNat:Nat):Int)):=y;have R:x.toNat<256:=x.toNat_lt;generalize x.toNat=T at *;have F:¬(d.length:Int)<=s:=(by omega);have U:(s:Int)<d.length:=(by omega);clear h m o;go_enter Tryz.func260, Tryz.ntmps260;go_wp2_with fail;go_ret;exact⟨rfl,rfl⟩
 · rw [oA d s (by omega)];have F:(d.length:Int)<=s:=(by omega);clear h m o;go_enter Tryz.func260, Tryz.ntmps260;go_wp2_with fail;go_ret;exact⟨rfl,rfl⟩
theorem Li(d:List UInt8)(base g n s:Nat)(c:Nat->Value)(w:World)(h:gX w base g d n c)(m:d.length<=300)(o:s<=1000000) :
  Calls Tryz.prog 217 #[.pointer (some ⟨g,0,none⟩),N s] w fun e w'=>e=.returned (N (eH d s))/\w'=w:=by
 have q:=ad (Gu d base g n s c w h m o);have y:=h.arr.cell 0 (by omega) rfl;clear h;go_enter Tryz.func217, Tryz.ntmps217;go_wp2_with fail;refine q.out.mono ?_;rintro e z ⟨rfl,rfl⟩;go_wp2_with fail;go_ret;exact⟨rfl,rfl⟩
theorem Le(x v:Value)(w:World) :
  Calls Tryz.prog 148 #[.pointer none,x,v] w fun e w'=>e=.returned (.int .i64 7)/\Fr w w':=by
 go_enter Tryz.func148, Tryz.ntmps148;go_wp2_with fail;go_ret;exact⟨rfl,Fr.refl w⟩
theorem Lf(d:List UInt8)(K I n s:Nat)(c:Nat->Value)(base g:Nat)(T:TypeId)(rest:List Value)(y:Value)(l:List UInt8)(w:World)(h:gX w K I d n c)(z:bK w base g T rest y l)
  (L:d.length<=300) (h15:∀ c∈d,c.toNat<=15) (hok:cH d=true) (hs:s<=1000000) (hl:l.length<=900000000) (hsz:base<=w.heap.size) :
  Calls Tryz.prog 148 #[.pointer (some ⟨I,0,none⟩),.pointer (some ⟨g,0,none⟩),N s] w fun e w'=>e=.returned (.int .i64 (if eH d s=0 then 13 else 0))/\∃ o,bK w' base g T rest o (l++lh d s)/\aA g y o w w':=by
 have J:=ad (fun W h=>Li d K I n s c W h L hs);have V:=ad (fun k=>(⟨h.arr.fr ((Fr.refl w).drewN k),h.own0.fr ((Fr.refl w).drewN k),h.own1.fr ((Fr.refl w).drewN k),h.first,h.many,fun l a b=>(h.syms l a b).fr ((Fr.refl w).drewN k),h.apart,h.up⟩:gX (w.drewN k) K I d n c));have aj:=ad (fun x n L hx o m W z hm hb=>rI x n L hx base g T rest o m W z hm hb);have M:=ad (J.out w h);have X:=ad (fun k=>J.out (w.drewN k) (V.out k));have O:=h.own0.see;have F:=h.own1.see;obtain⟨a,bu,Q,bx,a3,bz⟩:=O.shape;obtain⟨a1,b3,G,a4,a5,b4⟩:=F.shape;have k0:=h.arr.cell 0 (by omega) Q;have k1:=h.arr.cell 1 (by omega) G;unfold maxLen at a3 a5;by_cases A:eH d s=0;· rw [ai A,uH d s A,dm];rw [A]at M;clear h J V X O F Q G;go_enter Tryz.func148, Tryz.ntmps148;go_upto_region 3 with fail;go_wp2_with fail;refine M.out.mono ?_;rintro e R ⟨rfl,rfl⟩;go_wp2_with fail;go_ret;exact⟨rfl,y,z,aA.refl g y _⟩
 · rw [ah A,Ay d s A];have D:s<d.length:=by
    by_cases h:s<d.length;· exact h
    · exact absurd (oA d s (by omega)) A
   have a7:d[s]≠0:=fun e=>A (by rw [oB d s D,e];rfl);have Y:=zZ d hok h15 s D a7;have Z:s<(cg d).length:=(by rw [gU];exact D);have b8:=uz d s Z;have ba:=h15 _ (aH D);rw [G]at F;obtain⟨b1,bc,bA,aa,c1⟩:=F.cell1 (fun n=>Value.int .u16 (n:Int)) rfl s Z;rw [zX d s D];rw [<- oB d s D]at Y ba;generalize hq:(cg d)[s]=q at *;generalize bf:eH d s=U at *;rw [gU]at G aa k1 a4;cases aa;replace c1:w.cell? ⟨b1,bc+s,none⟩=some (.int .u16 (q:Int)):=c1;have i2:(s:Int)<d.length:=(by omega);have i3:(0:Int)<=s:=(by omega);have ca:IntKind.u64.wrap (q:Int)=(q:Int):=aX _ (by omega);have cb:¬(U:Int)=0:=(by omega);have cc:((U:Int) == 0)=false:=(by simp;omega);have ac:bK w.drew base g T rest y l:=⟨((Fr.refl w).drewN 1).heap z.1,z.2.1.drew,z.2.2⟩;have HP:=ad (aj.out q U (by omega) Y y l w.drew ac (by omega) hsz);have bm:Hid (∀ o w',aA g y o w.drew w'->aA g y o w w'):=fun o w' h=>aA.fr ((Fr.refl w).drewN 1) h;clear h J O F Q G hq bf ac z;go_enter Tryz.func148, Tryz.ntmps148;go_upto_region 3 with fail;go_wp2_with fail;refine M.out.mono ?_;rintro e R ⟨rfl,rfl⟩;go_upto_region 5 with fail
   go_region_with (first
    | (go_at_call 217; refine ((X.out 1).mono ?_); rintro e R ⟨rfl, rfl⟩)
    | (go_at_call 158; refine HP.out.mono ?_; rintro e R ⟨rfl, o, bn, bt⟩))
   all_goals go_wp2_with fail
   all_goals go_ret
   all_goals exact⟨rfl,o,bn,bm.out _ _ bt⟩
theorem Lb(v:Value)(d:List UInt8)(b2:Nat)(base g:Nat)(T:TypeId)(hT:T≠(eB:al Tryz.prog UInt8).e)(rest:List Value)(A:Value)(l:List UInt8)(w:World)(h:bK w base g T rest A l)
  (hs:Ow w b2 eB v d) (hap:v.ownBlock=none\/v.ownBlock≠A.ownBlock) (hn:d.length<=300) (h15:∀ c∈d,c.toNat<=15) (hok:cH d=true) (hl:l.length<=900000000) (hsz:base<=w.heap.size) :
  Calls Tryz.prog 215 #[.pointer (some ⟨g,0,none⟩),v] w fun e w'=>e=.returned (.int .i64 0)/\∃ o,bK w' base g T rest o (l++cS d)/\aA g A o w w':=by
 obtain⟨a,cy,rfl,d6,cz,d7⟩:=hs.see.shape;unfold maxLen at cz;have b8:=ad (vw _ d w hs.see hn h15);rw [hok]at b8;have c1:=hs.ne_cells h.1 hT
 have bA:Hid (∀ W o,aA g A o w W->af W eB (.slice a d.length cy) d):=fun W o D=>
  (hs.chg D.1 fun k M e => by
   rcases e with e | e
   · rw [e] at M; exact c1 M
   · rcases hap with h1 | h1
     · rw [h1] at M; cases M
     · exact h1 (M.trans e.symm)).see
 have a0:=ad (fun x n hn hx o m W G hm hb=>rI x n hn hx base g T rest o m W G hm hb);have d8:=ad (s6 d.length d (ag _));go_enter Tryz.func215, Tryz.ntmps215;go_wp2_with fail;refine b8.out.mono ?_;rintro e w1 ⟨rfl,a4⟩;have c7:Hid (aA g A A w w1):=(aA.refl g A w).frR a4;have c8:Hid (bK w1 base g T rest A l):=⟨a4.heap h.1,h.2.1.fr a4,h.2.2⟩;clear h hs;go_wp2_with fail;go_loopw [6] (fun iv wr=>∃ (i:Nat) (o:Value) (m:List UInt8),i<=d.length/\iv=N i/\bK wr base g T rest o m/\aA g A o w wr/\m.length<=l.length+10*i/\Hid (l++cS d=m++cS (d.drop i))) (fun iv _=>d.length - (intOf iv).toNat);case atStart=>exact⟨0,A,l,ap _,rfl,c8.out,c7.out,by omega,rfl⟩
 case round=>
  obtain⟨i,o,m,hi,rfl,G,D,dT,O⟩:=hrel;have bR:=aq hsz D.1.size;by_cases a6:i<d.length
  · obtain⟨b,a7,ec,hv,c0⟩:=gE (bA.out wr o D) i a6;have ef:=h15 _ (aH a6);have U:=ad (kM d[i]);have V:=ad (cM a6);generalize hc:d[i]=c at *;cases hv;replace c0:wr.cell? ⟨b,a7+i,none⟩=some (.int .u8 ((c.toNat:Nat):Int)):=c0;have ba:Hid (c≠0->l++cS d=(m++aW c.toNat 4)++cS (d.drop (i+1))):=fun h0=>(by rw [O.out,V.out,s5 _ _ h0];simp);have bc:Hid (c=0->l++cS d=(m++aW 0 4)++(aW (cw (d.drop (i+1)) 63) 6++cS (d.drop (i+(cw (d.drop (i+1)) 63+1))))):=fun h0=>(by rw [O.out,V.out,sw _ _ h0,List.drop_drop];simp [mJ,Nat.add_comm]);generalize c.toNat=F at *;have i1:(0:Int)<=i:=(by omega);have i2:(i:Int)<d.length:=(by omega);have cb:=jm F 4;by_cases bd:F=0
    · have cA:¬(0:Int)<F:=(by omega);have cc:=ad (bc.out (U.out.2 bd));clear ba bc V U O;subst bd;have cf:=jm 0 4;go_wp2_with fail;generalize wr=y at *;go_loopw [7] (fun nv wr=>∃ n:Nat,1<=n/\n<=64/\i+n<=d.length/\nv=N n/\Hid (cw (d.drop (i+1)) 63+1=n+cw (d.drop (i+n)) (64 - n))/\∃ q,wr=y.drewN q) (fun nv _=>64 - (intOf nv).toNat);case atStart=>exact⟨1,ag _,by omega,by omega,rfl,Nat.add_comm _ _,0,rfl⟩
      case round=>
       obtain⟨n,ev,e0,e1,rfl,Q,q,rfl⟩:=hrel;have n1:(1:Int)<=n:=(by omega);obtain⟨Z,hZ⟩:∃ Z,Z=cw (d.drop (i+n)) (64 - n):=⟨_,rfl⟩;rw [<- hZ]at Q;have L:=ad hZ;clear hZ;generalize R:y.drewN q=wq at *;go_upto_region 12 with fail;go_cut [51]from 33 to 51 (fun cv wx=>cv=.bool (decide (0<Z))/\Hid (0<Z->n<64/\i+n<d.length/\Z=cw (d.drop (i+(n+1))) (64 - (n+1))+1)/\∃ q,wx=y.drewN q)
       case first=>
        by_cases da:n<64
        · have k1:(n:Int)<64:=(by omega);by_cases X:i+n<d.length
          · have k2:(i:Int)+n<d.length:=(by omega);obtain⟨b',e4,e5,di,c3⟩:=gE (bA.out y o D) (i+n) X;have dj:=ad (kM d[i+n]);have bt:=ad (vW d (i+n) (63 - n) X);have bu:=ad (vX d (i+n) (64 - n) X);generalize e6:d[i+n]=I at *;cases di;replace c3:y.cell? ⟨b,a7+(i+n),none⟩=some (.int .u8 ((I.toNat:Nat):Int)):=c3;have e7:wq.cell? ⟨b,a7+(i+n),none⟩=some (.int .u8 ((I.toNat:Nat):Int)):=(by rw [<- R];exact c3);by_cases Y:I=0;· have bx:I.toNat=0:=(by rw [Y];rfl);have z:Hid (Z=cw (d.drop (i+(n+1))) (64 - (n+1))+1):=(by show _=_;rw [L.out,show 64 - n=63 - n+1 by omega,bt.out Y,show 63 - n=64 - (n+1) by omega];rfl);have J:Hid (decide (0<Z)=true):=bs (by rw [z.out];omega);generalize I.toNat=ch at *;subst bx;clear bt bu;go_wp2_with fail;go_meet;exact⟨by rw [J.out],fun _=>⟨da,X,z.out⟩,_,R.symm⟩
            · have bx:I.toNat≠0:=fun e=>Y (dj.out.2 e);have z:Hid (Z=0):=(by show _=_;rw [L.out,bu.out Y]);have J:Hid (decide (0<Z)=false):=bi (by rw [z.out];omega);generalize I.toNat=ch at *;have e9:decide ((ch:Int)=0)=false:=bi (by omega);clear bt bu;go_wp2_with fail;go_meet;exact⟨by rw [J.out];simp [bx],fun h=>by rw [z.out]at h;omega,_,R.symm⟩
          · have k2:¬(i:Int)+n<d.length:=(by omega);have z:Hid (Z=0):=(by show _=_;rw [L.out,vY _ _ _ (by omega)]);have J:Hid (decide (0<Z)=false):=bi (by rw [z.out];omega);go_wp2_with fail;go_meet;exact⟨by rw [J.out],fun h=>by rw [z.out]at h;omega,_,R.symm⟩
        · have k1:¬(n:Int)<64:=(by omega);have z:Hid (Z=0):=(by show _=_;rw [L.out,show 64 - n=0 by omega,vV]);have J:Hid (decide (0<Z)=false):=bi (by rw [z.out];omega);go_wp2_with fail;go_meet;exact⟨by rw [J.out],fun h=>by rw [z.out]at h;omega,_,R.symm⟩
       case rest=>
        obtain⟨rfl,HN,K,rfl⟩:=hcut;by_cases aa:0<Z
        · have ab:decide (0<Z)=true:=bs aa;obtain⟨a1,a2,a3⟩:=HN.out aa;simp only [ab];have dk:Hid (cw (d.drop (i+1)) 63+1=n+1+cw (d.drop (i+(n+1))) (64 - (n+1))):=(by show _=_;rw [Q.out,a3];omega);clear a3 Q L HN;go_wp2_with fail;go_roundw;case rel=>exact⟨n+1,by omega,by omega,by omega,by go_num,dk,K,rfl⟩
          case measure=>simp [intOf];omega
        · have ab:decide (0<Z)=false:=bi aa;obtain rfl:Z=0:=(by omega);simp only [ab];have cl:Hid (cw (d.drop (i+1)) 63=n - 1):=(by show _=_;have:=Q.out;omega);have b0:Hid (l++cS d=((m++aW 0 4)++aW (n - 1) 6)++cS (d.drop (i+n))):=(by show _=_;rw [cc.out,cl.out,show n - 1+1=n by omega];simp);have dl:bK (y.drewN K) base g T rest o m:=⟨((Fr.refl y).drewN K).heap G.1,G.2.1.fr ((Fr.refl y).drewN K),G.2.2⟩;have dr:=D.frR ((Fr.refl y).drewN K);have cm:=aq bR ((Fr.refl y).drewN K).size;generalize y.drewN K=wq at *;have HP:=ad (a0.out 0 4 (by omega) (by omega) o m wq dl (by omega) cm);have h6:=jm (n - 1) 6;have ds:IntKind.u64.wrap ((n:Int) - 1)=((n - 1:Nat):Int):=(by rw [show(n:Int) - 1=((n - 1:Nat):Int) by omega];exact aX _ (by omega));have fc:IntKind.i64.wrap ((n:Int) - 1)=((n - 1:Nat):Int):=(by rw [ar _ (by omega)];omega);clear Q L HN ab aa cl cc;go_wp2_with fail;refine HP.out.mono ?_;rintro e w3 ⟨rfl,b3,b4,ac⟩;have dv:=aq cm ac.1.size;have d0:(m++aW 0 4).length<=l.length+10*i+4:=(by rw [an,cf];omega);have d1:=ad (a0.out (n - 1) 6 (by omega) (by have:(2:Nat) ^ 6=64:=rfl;omega) b3 (m++aW 0 4) w3 b4 (by omega) dv);have b5:Hid ((m++aW 0 4++aW (n - 1) 6).length<=l.length+10*(i+n)):=(by show _<=_;rw [an,h6];omega);clear d0 h6 cf;go_wp2_with fail;refine d1.out.mono ?_;rintro e w4 ⟨rfl,d2,d3,d4⟩;go_wp2_with fail;go_roundw;case rel=>exact⟨i+n,d2,_,by omega,by go_num,d3,(dr.trans ac).trans d4,b5.out,b0⟩
          case measure=>simp [intOf];omega
    · have cA:(0:Int)<F:=(by omega);have b0:=ad (ba.out (fun e=>bd (U.out.1 e)));have HP:=ad (a0.out F 4 (by omega) (by have:(2:Nat) ^ 4=16:=rfl;omega) o m wr G (by omega) bR);have ds:IntKind.u64.wrap (F:Int)=F:=aX _ (by omega);have cs:(m++aW F 4).length<=l.length+10*(i+1):=(by rw [an,cb];omega);have b5:=ad cs;clear ba bc V U O cs cb;go_wp2_with fail;refine HP.out.mono ?_;rintro e w3 ⟨rfl,b3,b4,ac⟩;go_wp2_with fail;go_roundw;case rel=>exact⟨i+1,b3,_,by omega,by go_num,b4,D.trans ac,b5.out,b0⟩
      case measure=>simp [intOf];omega
  · obtain rfl:i=d.length:=(by omega);have fd:¬(d.length:Int)<d.length:=(by omega);have d5:Hid (l++cS d=m):=(by show _=_;rw [O.out,fZ,qj,dm]);go_wp2_with fail;go_ret;exact⟨rfl,o,by rw [d5.out];exact G,D⟩
theorem La(v:Value)(d:List UInt8)(g:Nat)(w:World)(h:af w eB v d)(o:d.length<=300)(q:∀ c∈d,c.toNat<=15)(y:cH d=false) :
  Calls Tryz.prog 215 #[.pointer (some ⟨g,0,none⟩),v] w fun e w'=>e=.returned (.int .i64 7)/\Fr w w':=by
 have m:=ad (vw _ d w h o q);rw [y]at m;clear h;go_enter Tryz.func215, Tryz.ntmps215;go_wp2_with fail;refine m.out.mono ?_;rintro e A ⟨rfl,z⟩;go_wp2_with fail;go_ret;exact⟨rfl,z⟩
def fg(d:List UInt8)(l s:Nat):List Nat:=
 (List.range d.length).map fun i=>if 1<=(d.getD i 0).toNat/\((d.getD i 0).toNat<l\/((d.getD i 0).toNat=l/\i<s))then bp d (d.getD i 0).toNat i % 65536 else 0
theorem nT(d:List UInt8)(l s:Nat):(fg d l s).length=d.length:=by simp [fg]
theorem Io(d:List UInt8):fg d 1 0=List.replicate d.length 0:=by
 apply kL;· simp [fg]
 · intro i e h;simp only [fg,jw,kh,List.getElem_replicate];rw [ah (by omega)]
theorem Ip(d:List UInt8)(l s:Nat)(h:s<d.length)(q:d[s].toNat≠l):fg d l (s+1)=fg d l s:=by
 unfold fg;refine iT fun i y=>?_;have e:d.getD s 0=d[s]:=by rw [cD,bo h];rfl
 by_cases o:i=s
 · subst o;rw [e];by_cases m:1<=d[i].toNat/\d[i].toNat<l;· rw [ai ⟨m.1,.inl m.2⟩,ai ⟨m.1,.inl m.2⟩]
   · rw [ah (by omega),ah (by omega)]
 · by_cases m:1<=(d.getD i 0).toNat/\((d.getD i 0).toNat<l\/((d.getD i 0).toNat=l/\i<s));· rw [ai m,ai (by omega)]
   · rw [ah m,ah (by omega)]
theorem Ir(d:List UInt8)(l s:Nat)(h:s<d.length)(z:1<=l)(y:d[s].toNat=l):(fg d l s).set s (bp d l s % 65536)=fg d l (s+1):=by
 have e:d.getD s 0=d[s]:=by rw [cD,bo h];rfl
 apply pT;intro j;by_cases m:j<d.length
 · by_cases o:s=j;· subst o;rw [List.getElem?_set_self (by rw [nT];exact h)];simp only [fg,List.getElem?_map,List.getElem?_range m,Option.map_some];rw [e,y,ai (by omega)]
   · rw [List.getElem?_set_ne o];simp only [fg,List.getElem?_map,List.getElem?_range m,Option.map_some];congr 1;by_cases q:1<=(d.getD j 0).toNat/\((d.getD j 0).toNat<l\/((d.getD j 0).toNat=l/\j<s));· rw [ai q,ai (by omega)]
     · rw [ah q,ah (by omega)]
 · rw [gJ (by rw [lx,nT];omega),gJ (by rw [nT];omega)]
theorem Iq(d:List UInt8)(l:Nat):fg d l d.length=fg d (l+1) 0:=by
 unfold fg;refine iT fun i e=>?_;have:=kg.1 e;by_cases h:1<=(d.getD i 0).toNat/\(d.getD i 0).toNat<=l;· rw [ai (by omega),ai (by omega)]
 · rw [ah (by omega),ah (by omega)]
theorem Is(d:List UInt8)(q:∀ c∈d,c.toNat<=15):fg d 16 0=cg d:=by
 apply kL;· simp [fg,cg]
 · intro i o y;have m:i<d.length:=(by rw [nT]at o;exact o);have e:d.getD i 0=d[i]:=(by rw [cD,bo m];rfl);have:=q _ (aH m);rw [py d i m];simp only [fg,jw,kh];rw [e];by_cases h:d[i]=0;· rw [ai h,ah (by rw [h];simp)]
   · have z:d[i].toNat≠0:=fun e=>h ((kM _).2 e);rw [ah h,ai (by omega)]
def gW(d:List UInt8)(l s e h:Nat)(m:Bool):Prop:=
 (m=true/\h<=l/\(e+1)*2 ^ (l - h)=bp d l s)\/(m=false/\e=0/\bp d l s=0)
theorem gW.start(d:List UInt8):gW d 1 0 0 0 false:=.inr ⟨rfl,rfl,by rw [sA];rfl⟩
theorem gW.skip{d:List UInt8}{l s m o:Nat}{q:Bool}(h:gW d l s m o q)(y:s<d.length)(z:d[s].toNat≠l):gW d l (s+1) m o q:=by
 have e:=qk d l s y;rw [ah z,cX]at e;unfold gW;rw [e];exact h
theorem gW.took{d:List UInt8}{l s:Nat}(e:s<d.length)(h:d[s].toNat=l):gW d l (s+1) (bp d l s) l true:=by
 refine .inl ⟨rfl,ag _,?_⟩;rw [qk d l s e,ai h,e8,Nat.pow_zero,gY]
theorem gW.level{d:List UInt8}{l y m:Nat}{z:Bool}(h:gW d l d.length y m z)(D:1<=l):gW d (l+1) 0 y m z:=by
 have e:=BZ d l D;unfold gW;rw [e];rcases h with⟨o,A,q⟩ | ⟨o,A,q⟩;· refine .inl ⟨o,by omega,?_⟩;rw [show l+1 - m=(l - m)+1 by omega,eA,<- q];simp [fK,lS]
 · exact .inr ⟨o,A,by rw [q]⟩
theorem Bb(v:Value)(m:List UInt8)(w:World)(Y:af w eB v m)(hn:m.length<=300)(c6:0<m.length)(Z:∀ c∈m,c.toNat<=15) :
  Calls Tryz.prog 233 #[v] w fun e w'=>(cH m=true->∃ v',e=.returned (.tuple #[v',.int .i64 0])/\Ow w' w.heap.size eU v' (cg m))/\(cH m=false->e=.returned (.tuple #[.slice none 0 0,.int .i64 7]))/\Fr w w':=by
 obtain⟨a,bA,rfl,c7,bB,c8⟩:=Y.shape;unfold maxLen at bB;have T:=ad (vh _ m w Y hn Z)
 cases bu:cH m with
 | false=>rw [bu]at T;go_enter Tryz.func233, Tryz.ntmps233;go_wp2_with fail;refine T.out.mono ?_;rintro e w1 ⟨rfl,aa⟩;go_wp2_with fail;go_ret2;exact⟨fun h=>by simp at h,fun _=>rfl,aa⟩
 | true=>
  rw [bu]at T;go_enter Tryz.func233, Tryz.ntmps233;go_wp2_with fail;refine T.out.mono ?_;rintro e w1 ⟨rfl,aa⟩;go_wp2_with fail;go_loopw [4,5] (fun ov iv wr=>∃ k:Nat,k<=m.length/\iv=N k/\Ow wr w.heap.size eU ov (List.replicate k 0)/\Fr w wr) (fun _ iv _=>m.length - (intOf iv).toNat);case atStart=>exact⟨0,ap _,rfl,Ow.nil,aa⟩
  case round=>
   obtain⟨k,hk,rfl,q,I⟩:=hrel;by_cases cA:k<m.length
   · have cb:(k:Int)<m.length:=(by omega);go_wp2_with (at_builtin;refine aM eU rfl (.tmp 21) (.tmp 22) 227 rfl Tryz.underlying227 w.heap.size rfl q [0] _ _ _ rfl rfl rfl (by simp;omega) I.size ?_);intro v' w4 bv;have cc:Ow w4 w.heap.size eU v' (List.replicate (k+1) 0):=(by rw [vL];exact bv.own);go_wp2_with fail;go_roundw;case rel=>exact⟨k+1,by omega,by go_num,cc,bv.below q I (ag _) I.size⟩
     case measure=>simp [intOf];omega
   · obtain rfl:k=m.length:=(by omega);have cb:¬(m.length:Int)<m.length:=(by omega);by_cases h0:m.length=0;· omega
     · obtain⟨g,U,bx,bz,cG,da,dc⟩:=q.atHead (by intro e;rw [List.replicate_eq_nil_iff]at e;omega);rw [lX]at bx;subst bx;rw [<- Io]at q;generalize wr=w2 at *
       have cf:Hid (∀ W,ak (fun k=>k=g) w2 W->af W eB (.slice a m.length bA) m):=fun W h=>
        Y.fr (ak.below I h I.size (fun i hi=>by rw [hi];exact bz))
       have ch:=ad (fun l s h=>wC m l s h hn);have cj:=ad (Is m Z);have cl:=ad (fun l=>Iq m l);have cm:=ad q;clear q;go_wp2_with fail;go_loopw [6,7,8,9] (fun L tv av lv wr=>∃ (l z A:Nat) (D:Bool),1<=l/\l<=16/\lv=N l/\L=N z/\tv=N A/\av=.bool D/\z<=20000000/\A<=15/\Hid (gW m l 0 z A D)/\Ow wr w.heap.size eU (.slice (some ⟨g,0,none⟩) m.length U) (fg m l 0)/\ak (fun k=>k=g) w2 wr) (fun _ _ _ lv _=>16 - (intOf lv).toNat);case atStart=>exact⟨1,0,0,false,ag _,by omega,rfl,rfl,rfl,rfl,by omega,by omega,gW.start m,cm.out,ak.refl _ _⟩
       case round=>
        obtain⟨l,z,A,D,b0,di,rfl,rfl,rfl,rfl,M,O,F,q,y⟩:=hrel;by_cases dj:l<16
        · have co:(l:Int)<=15:=(by omega);go_wp2_with fail;generalize wr=wo at *;go_loopw [6,7,8,10] (fun L tv av sv wr=>∃ (s z A:Nat) (D:Bool),s<=m.length/\sv=N s/\L=N z/\tv=N A/\av=.bool D/\z<=20000000/\A<=15/\Hid (gW m l s z A D)/\Ow wr w.heap.size eU (.slice (some ⟨g,0,none⟩) m.length U) (fg m l s)/\ak (fun k=>k=g) w2 wr) (fun _ _ _ sv _=>m.length - (intOf sv).toNat);case atStart=>exact⟨0,z,A,D,ap _,rfl,rfl,rfl,rfl,M,O,F,q,y⟩
          case round=>
           clear M O F q y;obtain⟨s,z,A,D,dl,rfl,rfl,rfl,rfl,M,O,F,q,y⟩:=hrel;by_cases G:s<m.length
           · obtain⟨b,cp,dr,hv,c0⟩:=gE (cf.out wr y) s G;have ds:=Z _ (aH G);have a4:=ad (fun y=>Ip m l s G y);have HEq:=ad (fun y=>Ir m l s G b0 y);have a5:=ad (fun y=>F.out.skip G y);have a6:=ad (fun y=>gW.took (l:=l) G y);generalize m[s]=c at *;cases hv;replace c0:wr.cell? ⟨b,cp+s,none⟩=some (.int .u8 ((c.toNat:Nat):Int)):=c0;generalize c.toNat=o at *;have i1:(0:Int)<=s:=(by omega);have i2:(s:Int)<m.length:=(by omega);have d4:IntKind.i64.wrap (o:Int)=o:=ar _ (by omega);by_cases a7:o=l
             · subst a7;have b2:((o:Int) == o)=true:=(by simp);have ba:o<=15:=(by omega);have bb:Hid (∀ W,Ow W w.heap.size eU (.slice (some ⟨g,0,none⟩) m.length U) (fg m o s)->(∃ d,W.cell? ⟨g,s,none⟩=some (.int .u16 d))/\W.frozen? ⟨g,s,none⟩=false/\Ow (W.setCell ⟨g,s,none⟩ (.int .u16 ((bp m o s % 65536:Nat):Int))) w.heap.size eU (.slice (some ⟨g,0,none⟩) m.length U) (fg m o (s+1))):=fun W h=>(by obtain⟨V,X⟩:=h.cellAt (fun n:Nat=>Value.int .u16 (n:Int)) rfl s (by rw [nT];exact G);have h3:=h.set (fun n:Nat=>Value.int .u16 (n:Int)) rfl s (by rw [nT];exact G) (bp m o s % 65536) (.int .u16 ((bp m o s % 65536:Nat):Int)) rfl;rw [HEq.out rfl]at h3;exact⟨⟨_,V⟩,X,h3⟩);have J:=ad (a6.out rfl);have hu:=wH (bp m o s);have d6:=ch.out o s ba;have bc:Hid ((D=true/\A<=o/\(z+1)*2 ^ (o - A)=bp m o s)\/(D=false/\z=0/\bp m o s=0)):=F.out;obtain⟨⟨dd,V⟩,X,Q⟩:=bb.out wr q;have R:=ad Q;clear a4 HEq a5 a6 F Q;generalize cv:bp m o s=K at *;clear cv;rcases bc.out with⟨ha,cx,bf⟩ | ⟨ha,cy,cz⟩
               · subst ha;have c1:z+1<=K:=(by rw [<- bf];exact Nat.le_mul_of_pos_right _ (kf _));have b4:=ad bf;clear bf bc V X R;go_wp2_with fail;generalize wr=wz at *;go_loopw [6,11] (fun L kv wr=>∃ (k p:Nat),A<=k/\k<=o/\kv=N k/\L=N p/\p<=K/\Hid (p*2 ^ (o - k)=K)/\wz=wr) (fun _ kv _=>o - (intOf kv).toNat);case atStart=>exact⟨A,z+1,ag _,cx,rfl,by first | rfl | go_num,c1,b4.out,by first | rfl | trivial⟩
                 case round=>
                  obtain⟨k,p,d7,d8,rfl,rfl,hp,HP,rfl⟩:=hrel;by_cases dT:k<o
                  · have c3:(k:Int)<o:=(by omega);have b5:Hid (2*p*2 ^ (o - (k+1))=K):=(by show _=_;rw [<- HP.out,show o - k=(o - (k+1))+1 by omega,eA,fK 2 p,Nat.mul_assoc,fK 2]);have c4:2*p<=K:=(by rw [<- b5.out];exact Nat.le_mul_of_pos_right _ (kf _));go_wp2_with fail;go_roundw;case rel=>exact⟨k+1,2*p,by omega,by omega,by go_num,by go_num,c4,b5,by first | rfl | trivial⟩
                    case measure=>simp [intOf];omega
                  · obtain rfl:k=o:=(by omega);have c3:¬(k:Int)<k:=(by omega);have c5:p=K:=(by have:=HP.out;rw [e8,Nat.pow_zero,gY]at this;exact this);subst c5;obtain⟨⟨dd,V⟩,X,Q⟩:=bb.out wz q;have R:=ad Q;clear Q HP b4;generalize p % 65536=vm at *;go_wp2_with fail;go_roundw;case rel=>exact⟨s+1,p,k,true,by omega,by go_num,rfl,rfl,rfl,by omega,ba,J,R.out,y.trans (aw wz _ _) (fun _ _ h=>h)⟩
                    case measure=>simp [intOf];omega
               · subst ha cy cz;have ef:IntKind.u16.wrap 0=0:=(by decide);rw [Nat.zero_mod]at R;clear bb bc;go_wp2_with fail;go_roundw;case rel=>exact⟨s+1,0,o,true,by omega,by go_num,rfl,rfl,rfl,by omega,ba,J,R.out,y.trans (aw wr _ _) (fun _ _ h=>h)⟩
                 case measure=>simp [intOf];omega
             · have b2:((o:Int) == l)=false:=(by simp;omega);have ek:¬(o:Int)=l:=(by omega);have er:((o:Int) != l)=true:=(by rw [bne,b2];rfl);have b8:=q;rw [<- a4.out a7]at b8;have J:=ad (a5.out a7);clear a4 HEq a5 a6 F q;go_wp2_with fail;go_roundw;case rel=>exact⟨s+1,z,A,D,by omega,by go_num,rfl,rfl,rfl,M,O,J,b8,y⟩
               case measure=>simp [intOf];omega
           · obtain rfl:s=m.length:=(by omega);have es:¬(m.length:Int)<m.length:=(by omega);rw [cl.out]at q;have J:=ad (F.out.level b0);clear F;go_wp2_with fail;go_roundw;case rel=>exact⟨l+1,z,A,D,by omega,by omega,by go_num,rfl,rfl,rfl,M,O,J,q,y⟩
             case measure=>simp [intOf];omega
        · obtain rfl:l=16:=(by omega);have co:¬(16:Int)<=15:=(by omega);rw [cj.out]at q;go_wp2_with fail;go_ret2;exact⟨⟨_,rfl,q⟩,ak.below I y I.size (fun i hi=>by rw [hi];exact bz)⟩
theorem Kc(v:Value)(d:List UInt8)(w:World)(I:af w eB v d)(hn:d.length<=300)(a0:0<d.length)(a1:∀ c∈d,c.toNat<=15)(V:cH d=true) :
  Calls Tryz.prog 176 #[v] w fun e w'=>∃ J K,e=.returned (.tuple #[.agg #[J,K],.int .i64 0])/\Ow w' w.heap.size eB J d/\Ow w' w.heap.size eU K (cg d)/\Fr w w':=by
 have HC:=ad (fun W h=>Bb v d W h hn a0 a1);have X:=ad (fun W (h:Fr w W)=>I.fr h);obtain⟨a,bn,rfl,bt,a3,bu⟩:=I.shape;unfold maxLen at a3;clear I;have L:Fr w (w.alloc (.cells #[.slice none 0 0,.slice none 0 0] 251)):=(Fr.refl w).alloc _;have Y:(w.alloc (.cells #[.slice none 0 0,.slice none 0 0] 251)).heap[w.heap.size]? = some (.cells #[.slice none 0 0,.slice none 0 0] 251 (0,0)):=au _ _ _ rfl;have a4:=ad (HC.out _ (X.out _ L));go_enter Tryz.func176, Tryz.ntmps176;go_wp2_with fail;refine a4.out.mono ?_;rintro e m ⟨ht,_,Z⟩;obtain⟨K,rfl,aa⟩:=ht V;have M:=L.trans Z;have a6:=Z.heap Y;have O:Ow (m.alloc (.cells #[] 5)) m.heap.size eB (.slice (some ⟨m.heap.size,0,none⟩) 0 0) []:=iC eB m #[] [] 0 rfl (by simp [maxLen]) (ag _);have ab:=(X.out m M).fr ((Fr.refl m).alloc (.cells #[] 5));have a7:([]:List UInt8).length+d.length<=2147483648:=by simp;omega
 clear L Y V;go_wp2_with (at_builtin;refine aN eB rfl (.tmp 15) (.tmp 16) 29 rfl Tryz.underlying29 m.heap.size rfl O _ _ rfl ab a7 ((Fr.refl m).alloc _).size ?_);intro J w4 Q;have R:Fr m w4:=Q.below O ((Fr.refl m).alloc _) (ag _) ((Fr.refl m).alloc _).size;have ac:Fr w w4:=M.trans R;have o:=R.heap a6;have y:=(aa.fr R).rebase (show w.heap.size<=_ by simp);have T:=Q.own.rebase M.size;obtain⟨z,D,ba⟩:=T.shape';subst ba;obtain⟨F,G,bb⟩:=y.shape';subst bb;have e0:=ae o 0 rfl;have e1:=ae o 1 rfl;have f0:w4.frozen? ⟨w.heap.size,0,none⟩=false:=az o 0;have f1:w4.frozen? ⟨w.heap.size,1,none⟩=false:=az o 1;clear Q O ab aa;go_wp2_with fail;rw [gU]
 have h1:((w4.setCell ⟨w.heap.size,0,none⟩ (.slice z d.length D)).setCell ⟨w.heap.size,1,none⟩ (.slice F d.length G)).heap[w.heap.size]? = some (.cells #[.slice z d.length D,.slice F d.length G] 251 (0,0)):=
  aB (aB o 0 _) 1 _
 have bd:=T.ne_cells o (by decide);have aj:=y.ne_cells o (by decide)
 have U:ak (fun k=>k=w.heap.size) w4 ((w4.setCell ⟨w.heap.size,0,none⟩ (.slice z d.length D)).setCell ⟨w.heap.size,1,none⟩ (.slice F d.length G)):=
  (aw w4 ⟨w.heap.size,0,none⟩ _).trans (aw _ ⟨w.heap.size,1,none⟩ _) (fun _ _ h=>h)
 rw [gU]at y aj;have bf:=T.chg U (fun k q e=>bd (by rw [q,e]));have bk:=y.chg U (fun k q e=>aj (by rw [q,e]));have bm:Fr w _:=ak.below ac U ac.size (fun k q=>gZ q.symm);exact b6Qb (v:=.tuple #[.agg #[.slice z d.length D,.slice F d.length G],.int .i64 0]) (lC Tryz.results176 _ _ w.heap.size 251 _ (0,0) _ _ rfl rfl h1 Tryz.underlying251 rfl (by kernel_rfl)) rfl ⟨_,_,rfl,bf,bk,bm⟩
theorem Kb(v:Value)(d:List UInt8)(w:World)(y:af w eB v d)(I:d.length<=300)(J:0<d.length)(K:∀ c∈d,c.toNat<=15)(z:cH d=false) :
  Calls Tryz.prog 176 #[v] w fun e w'=>e=.returned (.tuple #[.agg #[.slice none 0 0,.slice none 0 0],.int .i64 7])/\Fr w w':=by
 have L:=ad (fun W h=>Bb v d W h I J K);have M:=ad (fun W (h:Fr w W)=>y.fr h);clear y;have q:Fr w (w.alloc (.cells #[.slice none 0 0,.slice none 0 0] 251)):=(Fr.refl w).alloc _;have D:(w.alloc (.cells #[.slice none 0 0,.slice none 0 0] 251)).heap[w.heap.size]? = some (.cells #[.slice none 0 0,.slice none 0 0] 251 (0,0)):=au _ _ _ rfl;have O:=ad (L.out _ (M.out _ q));go_enter Tryz.func176, Tryz.ntmps176;go_wp2_with fail;refine O.out.mono ?_;rintro e m ⟨_,Q,F⟩;obtain rfl:=Q z;have G:=q.trans F;have o:=F.heap D;have X:=ae o 0 rfl;have Y:=ae o 1 rfl;have Z:m.frozen? ⟨w.heap.size,0,none⟩=false:=az o 0;have f1:m.frozen? ⟨w.heap.size,1,none⟩=false:=az o 1;clear q D z;go_wp2_with fail
 have R:((m.setCell ⟨w.heap.size,0,none⟩ (.slice none 0 0)).setCell ⟨w.heap.size,1,none⟩ (.slice none 0 0)).heap[w.heap.size]? = some (.cells #[.slice none 0 0,.slice none 0 0] 251 (0,0)):=
  aB (aB o 0 _) 1 _
 have T:ak (fun k=>k=w.heap.size) m ((m.setCell ⟨w.heap.size,0,none⟩ (.slice none 0 0)).setCell ⟨w.heap.size,1,none⟩ (.slice none 0 0)):=
  (aw m ⟨w.heap.size,0,none⟩ _).trans (aw _ ⟨w.heap.size,1,none⟩ _) (fun _ _ h=>h)
 have U:Fr w _:=ak.below G T G.size (fun k V=>gZ V.symm);exact b6Qb (v:=.tuple #[.agg #[.slice none 0 0,.slice none 0 0],.int .i64 7]) (lC Tryz.results176 _ _ w.heap.size 251 _ (0,0) _ _ rfl rfl R Tryz.underlying251 rfl (by kernel_rfl)) rfl ⟨rfl,U⟩
theorem JZ(p:Value)(s:Nat)(w:World)(d:s<=1000000) :
  Calls Tryz.prog 178 #[.agg #[.slice none 0 0,.slice none 0 0],p,N s] w fun e w'=>e=.returned (.int .i64 13)/\Fr w w':=by
 have h:¬(s:Int)<0:=by omega
 have m:(0:Int)<=s:=by omega
 go_enter Tryz.func178, Tryz.ntmps178;go_wp2_with fail;go_ret;exact⟨rfl,(Fr.refl w).alloc _⟩
theorem Ka(d:List UInt8)(b2 b3:Nat)(lv cv:Value)(s:Nat)(base g:Nat)(T:TypeId)(y:Value)(l:List UInt8)(w:World)(I:Ow w b2 eB lv d)(J:Ow w b3 eU cv (cg d))(o:cP w base g T y l)
  (hn:d.length<=300) (h15:∀ c∈d,c.toNat<=15) (hok:cH d=true) (hs:s<=1000000) (hl:l.length<=900000000) (hsz:base<=w.heap.size) :
  Calls Tryz.prog 178 #[.agg #[lv,cv],.pointer (some ⟨g,0,none⟩),N s] w fun e w'=>e=.returned (.int .i64 (if eH d s=0 then 13 else 0))/\∃ z,cP w' base g T z (l++lh d s)/\aA g y z w w':=by
 have bn:=ad (fun x n hn D z m W o hm hb=>pG x n hn D base g T z m W o hm hb);obtain⟨la,O,rfl⟩:=I.shape';obtain⟨ca,Q,a6⟩:=J.shape';rw [gU]at a6;subst a6;have K:=I.see;have R:=J.see;obtain⟨_,_,hv,bR,bz,cb⟩:=K.shape;cases hv;unfold maxLen at bz;have A:Fr w (w.alloc (.cells #[.slice la d.length O,.slice ca d.length Q] 251)):=(Fr.refl w).alloc _;have ac:(w.alloc (.cells #[.slice la d.length O,.slice ca d.length Q] 251)).heap[w.heap.size]? = some (.cells #[.slice la d.length O,.slice ca d.length Q] 251 (0,0)):=au _ _ _ rfl;have i1:¬(s:Int)<0:=by omega
 by_cases F:s<d.length
 · obtain⟨b,a7,ch,b0,U⟩:=gE K s F;cases b0;have V:=oB d s F;have aj:=ad (fun L=>zZ d hok h15 s F L);have ba:s<(cg d).length:=(by rw [gU];exact F);have cj:=uz d s ba;have cl:=h15 _ (aH F);have X:=ad (kM d[s]);obtain⟨b1,bc,cm,bd,Y⟩:=R.cell1 (fun n=>Value.int .u16 (n:Int)) rfl s ba;rw [gU]at bd;cases bd;have av:Hid (d[s]≠0->lh d s=aW (cg d)[s] d[s].toNat):=fun L=>(by rw [Ay d s (by rw [V];exact fun e=>L (X.out.2 e)),zX d s F,V]);have a0:Hid (d[s]=0->lh d s=[]):=fun L=>uH d s (by rw [V,L];rfl);rw [V];generalize d[s]=x at *;replace U:w.cell? ⟨b,a7+s,none⟩=some (.int .u8 ((x.toNat:Nat):Int)):=U;generalize (cg d)[s]=q at *;replace Y:w.cell? ⟨b1,bc+s,none⟩=some (.int .u16 (q:Int)):=Y;have i2:¬(d.length:Int)<=s:=(by omega);have i3:(s:Int)<d.length:=(by omega);have i4:(0:Int)<=s:=(by omega);replace U:=A.cell U;replace Y:=A.cell Y;by_cases D:x=0;· have Z:x.toNat=0:=(by rw [D];rfl);have HE:=ad (a0.out D);generalize x.toNat=G at *;subst Z;rw [HE.out,dm];have a2:cP _ base g T y l:=⟨A.heap o.1,o.2.1.fr A,o.2.2⟩;clear I J K R aj X av a0 o ac;go_enter Tryz.func178, Tryz.ntmps178;go_wp2_with fail;go_ret;exact⟨by simp,y,a2,(aA.refl g y w).frR A⟩
   · have Z:x.toNat≠0:=fun e=>D (X.out.2 e);have HE:=ad (av.out D);have bf:=aj.out D;rw [HE.out,ah Z];generalize x.toNat=G at *;have cs:¬(G:Int)=0:=(by omega);have ct:((G:Int) == 0)=false:=(by simp [Z]);have cx:IntKind.u64.wrap (q:Int)=(q:Int):=aX _ (by omega);have cy:IntKind.i64.wrap (G:Int)=(G:Int):=ar _ (by omega);have M:=A.drewN 1;have HP:=ad (bn.out q G (by omega) bf y l _ (⟨M.heap o.1,o.2.1.fr M,o.2.2⟩:cP ((w.alloc (.cells #[.slice (some ⟨b,a7,none⟩) d.length O,.slice (some ⟨b1,bc,none⟩) d.length Q] 251)).drewN 1) base g T y l) (by omega) (aq hsz M.size));have b8:Hid (∀ z w',aA g y z _ w'->aA g y z w w'):=fun z w' h=>aA.fr M h;clear I J K R aj X av a0 o ac bf M;go_enter Tryz.func178, Tryz.ntmps178;go_upto_region 3 with fail;go_region_with (go_at_call 179;refine HP.out.mono ?_;rintro e w1 ⟨rfl,z,bA,bB⟩);all_goals go_wp2_with fail
     all_goals go_ret
     all_goals exact⟨rfl,z,bA,b8.out _ _ bB⟩
 · rw [oA d s (by omega),uH d s (oA d s (by omega)),dm];have i2:(d.length:Int)<=s:=(by omega);have a2:cP _ base g T y l:=⟨A.heap o.1,o.2.1.fr A,o.2.2⟩;clear I J K R o ac;go_enter Tryz.func178, Tryz.ntmps178;go_wp2_with fail;go_ret;exact⟨by simp,y,a2,(aA.refl g y w).frR A⟩
theorem JU(v:Value)(d:List UInt8)(b2:Nat)(base g:Nat)(T:TypeId)(hT:T≠(eB:al Tryz.prog UInt8).e)(y:Value)(l:List UInt8)(w:World)(h:cP w base g T y l)
  (hs:Ow w b2 eB v d) (hap:v.ownBlock=none\/v.ownBlock≠y.ownBlock) (hn:d.length<=300) (h15:∀ c∈d,c.toNat<=15) (hok:cH d=true) (hl:l.length<=900000000) (hsz:base<=w.heap.size) :
  Calls Tryz.prog 175 #[.pointer (some ⟨g,0,none⟩),v] w fun e w'=>e=.returned (.int .i64 0)/\∃ o,cP w' base g T o (l++cS d)/\aA g y o w w':=by
 obtain⟨a,cs,rfl,d6,ct,d7⟩:=hs.see.shape;unfold maxLen at ct;have b3:=ad (vh _ d w hs.see hn h15);rw [hok]at b3;have cx:=hs.ne_cells h.1 hT
 have a4:Hid (∀ W o,aA g y o w W->af W eB (.slice a d.length cs) d):=fun W o F=>
  (hs.chg F.1 fun k J e => by
   rcases e with e | e
   · rw [e] at J; exact cx J
   · rcases hap with h1 | h1
     · rw [h1] at J; cases J
     · exact h1 (J.trans e.symm)).see
 have b4:=ad (fun x n hn hx o m W M hm hb=>pG x n hn hx base g T o m W M hm hb);have d8:=ad (s6 d.length d (ag _));go_enter Tryz.func175, Tryz.ntmps175;go_wp2_with fail;refine b3.out.mono ?_;rintro e w1 ⟨rfl,a6⟩;have c5:Hid (aA g y y w w1):=(aA.refl g y w).frR a6;have c6:Hid (cP w1 base g T y l):=⟨a6.heap h.1,h.2.1.fr a6,h.2.2⟩;clear h hs;go_wp2_with fail;go_loopw [5] (fun iv wr=>∃ (i:Nat) (o:Value) (m:List UInt8),i<=d.length/\iv=N i/\cP wr base g T o m/\aA g y o w wr/\m.length<=l.length+10*i/\Hid (l++cS d=m++cS (d.drop i))) (fun iv _=>d.length - (intOf iv).toNat);case atStart=>exact⟨0,y,l,ap _,rfl,c6.out,c5.out,by omega,rfl⟩
 case round=>
  obtain⟨i,o,m,hi,rfl,M,F,dT,O⟩:=hrel;have b8:=aq hsz F.1.size;by_cases Q:i<d.length
  · obtain⟨b,ba,ec,hv,c0⟩:=gE (a4.out wr o F) i Q;have ef:=h15 _ (aH Q);have R:=ad (kM d[i]);have bc:=ad (cM Q);generalize hc:d[i]=c at *;cases hv;replace c0:wr.cell? ⟨b,ba+i,none⟩=some (.int .u8 ((c.toNat:Nat):Int)):=c0;have bd:Hid (c≠0->l++cS d=(m++aW c.toNat 4)++cS (d.drop (i+1))):=fun h0=>(by rw [O.out,bc.out,s5 _ _ h0];simp);have bk:Hid (c=0->l++cS d=(m++aW 0 4)++(aW (cw (d.drop (i+1)) 63) 6++cS (d.drop (i+(cw (d.drop (i+1)) 63+1))))):=fun h0=>(by rw [O.out,bc.out,sw _ _ h0,List.drop_drop];simp [mJ,Nat.add_comm]);generalize K:c.toNat=z at *;have i1:(0:Int)<=i:=(by omega);have i2:(i:Int)<d.length:=(by omega);have bA:=jm z 4;have HP:=ad (b4.out z 4 (by omega) (by have:(2:Nat) ^ 4=16:=rfl;omega) o m wr M (by omega) b8);have cA:IntKind.u64.wrap (z:Int)=z:=aX _ (by omega);have bB:(m++aW z 4).length<=l.length+10*i+4:=(by rw [an,bA];omega);have bR:=ad bB;clear bc O bB bA;go_wp2_with fail;refine HP.out.mono ?_;rintro e A ⟨rfl,U,ca,cb⟩;have V:=F.trans cb;have cF:=aq b8 cb.1.size;obtain⟨b',da,dc,bm,X⟩:=gE (a4.out A U V) i Q;rw [hc]at X;cases bm;replace X:A.cell? ⟨b,ba+i,none⟩=some (.int .u8 ((c.toNat:Nat):Int)):=X;rw [K]at X;clear c0;by_cases bn:z=0
    · have dd:¬(0:Int)<z:=(by omega);have cc:=ad (bk.out (R.out.2 bn));clear bd bk R K;subst bn;go_wp2_with fail;go_loopw [5,6] (fun jv nv wx=>∃ n:Nat,n<=63/\i+n+1<=d.length/\jv=N (i+n)/\nv=N n/\Hid (cw (d.drop (i+1)) 63=n+cw (d.drop (i+n+1)) (63 - n))/\A=wx) (fun _ nv _=>64 - (intOf nv).toNat);case atStart=>exact⟨0,by omega,by omega,rfl,rfl,by show _=_;simp,rfl⟩
      case round=>
       obtain⟨n,es,ev,rfl,rfl,L,rfl⟩:=hrel;obtain⟨Z,hZ⟩:∃ Z,Z=cw (d.drop (i+n+1)) (63 - n):=⟨_,rfl⟩;rw [<- hZ]at L;have G:=ad hZ;clear hZ;go_upto_region 9 with fail;go_cut [44]from 28 to 44 (fun cv wx=>cv=.bool (decide (0<Z))/\Hid (0<Z->n<63/\i+n+1<d.length/\Z=cw (d.drop (i+(n+1)+1)) (63 - (n+1))+1)/\A=wx)
       case first=>
        by_cases Y:i+n+1<d.length
        · have k2:(i:Int)+n+1<d.length:=(by omega);obtain⟨b',da,dc,bm,c4⟩:=gE (a4.out A U V) (i+n+1) Y;have dl:=ad (kM d[i+n+1]);have aa:=ad (vW d (i+n+1) (62 - n) Y);have ab:=ad (vX d (i+n+1) (63 - n) Y);generalize e0:d[i+n+1]=I at *;cases bm;replace c4:A.cell? ⟨b,ba+(i+n+1),none⟩=some (.int .u8 ((I.toNat:Nat):Int)):=c4;by_cases ac:I=0
          · have K:I.toNat=0:=(by rw [ac];rfl);generalize I.toNat=ch at *;subst K;by_cases dr:n<63;· have k1:(n:Int)<63:=(by omega);have q:Hid (Z=cw (d.drop (i+(n+1)+1)) (63 - (n+1))+1):=(by show _=_;rw [G.out,show 63 - n=62 - n+1 by omega,aa.out ac,show 62 - n=63 - (n+1) by omega];rfl);have D:Hid (decide (0<Z)=true):=bs (by rw [q.out];omega);clear aa ab;go_wp2_with fail;go_meet;exact⟨by rw [D.out],fun _=>⟨dr,Y,q.out⟩,rfl⟩
            · have k1:¬(n:Int)<63:=(by omega);have q:Hid (Z=0):=(by show _=_;rw [G.out,show 63 - n=0 by omega,vV]);have D:Hid (decide (0<Z)=false):=bi (by rw [q.out];omega);clear aa ab;go_wp2_with fail;go_meet;exact⟨by rw [D.out],fun h=>by rw [q.out]at h;omega,rfl⟩
          · have K:I.toNat≠0:=fun e=>ac (dl.out.2 e);have q:Hid (Z=0):=(by show _=_;rw [G.out,ab.out ac]);have D:Hid (decide (0<Z)=false):=bi (by rw [q.out];omega);generalize I.toNat=ch at *;have e1:decide ((ch:Int)=0)=false:=bi (by omega);clear aa ab;go_wp2_with fail;go_meet;exact⟨by rw [D.out],fun h=>by rw [q.out]at h;omega,rfl⟩
        · have k2:¬(i:Int)+n+1<d.length:=(by omega);have q:Hid (Z=0):=(by show _=_;rw [G.out,vY _ _ _ (by omega)]);have D:Hid (decide (0<Z)=false):=bi (by rw [q.out];omega);go_wp2_with fail;go_meet;exact⟨by rw [D.out],fun h=>by rw [q.out]at h;omega,rfl⟩
       case rest=>
        obtain⟨rfl,HN,rfl⟩:=hcut;by_cases aj:0<Z
        · have av:decide (0<Z)=true:=bs aj;obtain⟨a1,a2,a3⟩:=HN.out aj;simp only [av];have dv:Hid (cw (d.drop (i+1)) 63=n+1+cw (d.drop (i+(n+1)+1)) (63 - (n+1))):=(by show _=_;rw [L.out,a3];omega);clear a3 L G HN;go_wp2_with fail;go_roundw;case rel=>exact⟨n+1,by omega,by omega,by go_num,by go_num,dv,trivial⟩
          case measure=>simp [intOf];omega
        · have av:decide (0<Z)=false:=bi aj;obtain rfl:Z=0:=(by omega);simp only [av];have cl:Hid (cw (d.drop (i+1)) 63=n):=(by show _=_;have:=L.out;omega);have b0:Hid (l++cS d=((m++aW 0 4)++aW n 6)++cS (d.drop (i+n+1))):=(by show _=_;rw [cc.out,cl.out,show i+(n+1)=i+n+1 by omega];simp);have h6:=jm n 6;have cA:IntKind.u64.wrap (n:Int)=(n:Int):=aX _ (by omega);have d0:=bR.out;have d1:=ad (b4.out n 6 (by omega) (by have:(2:Nat) ^ 6=64:=rfl;omega) U (m++aW 0 4) A ca (by omega) cF);have b1:Hid ((m++aW 0 4++aW n 6).length<=l.length+10*(i+n+1)):=(by show _<=_;rw [an,h6];omega);clear L G HN av aj cl cc d0 h6;go_wp2_with fail;refine d1.out.mono ?_;rintro e w4 ⟨rfl,d2,d3,d4⟩;go_wp2_with fail;go_roundw;case rel=>exact⟨i+n+1,d2,_,by omega,by go_num,d3,V.trans d4,b1.out,b0⟩
          case measure=>simp [intOf];omega
    · have dd:(0:Int)<z:=(by omega);have b0:=ad (bd.out (fun e=>bn (R.out.1 e)));have b1:Hid ((m++aW z 4).length<=l.length+10*(i+1)):=(by have:=bR.out;show _<=_;omega);clear bd bk R;go_wp2_with fail;go_roundw;case rel=>exact⟨i+1,U,_,by omega,by go_num,ca,V,b1.out,b0⟩
      case measure=>simp [intOf];omega
  · obtain rfl:i=d.length:=(by omega);have e4:¬(d.length:Int)<d.length:=(by omega);have d5:Hid (l++cS d=m):=(by show _=_;rw [O.out,fZ,qj,dm]);go_wp2_with fail;go_ret;exact⟨rfl,o,by rw [d5.out];exact M,F⟩
theorem JT(v:Value)(d:List UInt8)(g:Nat)(w:World)(h:af w eB v d)(o:d.length<=300)(q:∀ c∈d,c.toNat<=15)(y:cH d=false) :
  Calls Tryz.prog 175 #[.pointer (some ⟨g,0,none⟩),v] w fun e w'=>e=.returned (.int .i64 7)/\Fr w w':=by
 have m:=ad (vh _ d w h o q);rw [y]at m;clear h;go_enter Tryz.func175, Tryz.ntmps175;go_wp2_with fail;refine m.out.mono ?_;rintro e A ⟨rfl,z⟩;go_wp2_with fail;go_ret;exact⟨rfl,z⟩
abbrev oI(t l s x:Value):Obj:=.cells #[t,l,s,x] 37 (0,0)
theorem Eg(B base:Nat)(s:Cs)(b:List UInt8)(w:World)(X:a8 w 176 B base b s.at_ s.er)(O:b.length<=1000000)(hb:base<=w.heap.size) :
  Calls Tryz.prog 243 #[.agg #[.pointer (some ⟨B,0,none⟩)],.bool true] w fun e w'=>e=.returned (jA (fQ true b s))/\a8 w' 176 B base b (eq true b s).2.at_ (eq true b s).2.er/\ak (fun k=>k=B) w w':=by
 have a5:Hid (∀ W,a8 W 176 B base b s.at_ s.er->Calls Tryz.prog 278 #[.pointer (some ⟨B,0,none⟩)] W fun e w'=>e=.returned (.int .u64 ((i8 true b s).1:Int))/\a8 w' 176 B base b (i8 true b s).2.at_ (i8 true b s).2.er/\ak (fun b=>b=B) W w'):=fun W h=>KQ B base s b W h O;have a6:Hid (∀ W,a8 W 176 B base b (i8 true b s).2.at_ (i8 true b s).2.er->base<=W.heap.size->Calls Tryz.prog 134 #[.pointer (some ⟨B,0,none⟩)] W fun e w'=>e=.returned (.int .u8 ((ii true b s).1:Int))/\a8 w' 176 B base b (ii true b s).2.at_ (ii true b s).2.er/\ak (fun b=>b=B) W w'):=fun W h h2=>vA B base (i8 true b s).2 b W h O h2;have a7:Hid (∀ W,a8 W 176 B base b (ii true b s).2.at_ (ii true b s).2.er->Calls Tryz.prog 279 #[.pointer (some ⟨B,0,none⟩),N 4000] W fun e w'=>e=.returned (S (i9 true b s).1)/\a8 w' 176 B base b (i9 true b s).2.at_ (i9 true b s).2.er/\ak (fun b=>b=B) W w'):=fun W h=>AH 4000 (by decide) B base (ii true b s).2 b W h O;have ba:Hid (∀ W,a8 W 176 B base b (i9 true b s).2.at_ (i9 true b s).2.er->Calls Tryz.prog 279 #[.pointer (some ⟨B,0,none⟩),N 4000] W fun e w'=>e=.returned (S (eq true b s).1)/\a8 w' 176 B base b (eq true b s).2.at_ (eq true b s).2.er/\ak (fun b=>b=B) W w'):=fun W h=>AH 4000 (by decide) B base (i9 true b s).2 b W h O;have bb:(i8 true b s).1<18446744073709551616:=by
  show Cs.val _ _<_;unfold Cs.val;split;· exact y8 _
  · decide
 have bc:(ii true b s).1<256:=kH _;have HR:Hid (jA (fQ true b s)=.agg #[.int .u64 ((i8 true b s).1:Int),.int .u8 ((ii true b s).1:Int),S (i9 true b s).1,S (eq true b s).1]):=by show Value.agg #[.int .u64 ((UInt64.ofNat (i8 true b s).1).toNat:Int),.int .u8 ((UInt8.ofNat (ii true b s).1).toNat:Int),_,_]=_;rw [pK,jL,pN bb,pN bc];rfl
 have dj:=X.lt;obtain⟨g,Q⟩:∃ g,g=w.heap.size:=⟨_,rfl⟩;obtain⟨D,F⟩:∃ D,D=(w.alloc (.cells #[.pointer (some ⟨B,0,none⟩)] 329)).alloc (.cells #[.int .u64 0,.int .u8 0,.string ⟨#[]⟩,.string ⟨#[]⟩] 37):=⟨_,rfl⟩;have cj:Fr w (w.alloc (.cells #[.pointer (some ⟨B,0,none⟩)] 329)):=(Fr.refl w).alloc _;have bd:Fr w D:=by rw [F];exact cj.alloc _
 have bf:D.heap[g]? = some (.cells #[.pointer (some ⟨B,0,none⟩)] 329 (0,0)):=by rw [F,Q];exact((Fr.refl _).alloc _).heap (au _ _ _ rfl)
 have cl:D.heap[g+1]? = some (oI (.int .u64 0) (.int .u8 0) (.string ⟨#[]⟩) (.string ⟨#[]⟩)):=by rw [F,Q];exact au _ _ _ (by simp)
 have kz:=X.fr bd;have Y:B≠g:=by omega
 have z:B≠g+1:=by omega
 have c0:=ae bf 0 rfl;have bk:=ad (a5.out D kz);have dk:base<=g:=by omega
 clear bb bc;generalize (i8 true b s).1=m at *;generalize (i8 true b s).2=q1 at *;generalize (ii true b s).1=q at *;generalize (ii true b s).2=q2 at *;generalize (i9 true b s).1=y at *;generalize (i9 true b s).2=s1 at *;generalize (eq true b s).1=o at *;generalize (eq true b s).2=s2 at *;generalize jA (fQ true b s)=RV at *;have HG:=ad Q;have HW:=ad F;clear X F a5;go_enter Tryz.func243, Tryz.ntmps243;go_upto_region 5 with fail;rw [<- HG.out,<- HW.out];clear Q;go_wp2_with fail;refine(bk.out).mono ?_;rintro e Z ⟨rfl,bn,R⟩;have aa:=R.heap bf (fun e=>Y e.symm);have G:=R.heap cl (fun e=>z e.symm);have z0:=az G 0;have d0:=ae G 0 rfl;have I:=ae aa 0 rfl;have d:=aw Z ⟨g+1,0,none⟩ (.int .u64 (m:Int));have ab:(Z.setCell ⟨g+1,0,none⟩ (.int .u64 (m:Int))).heap[g+1]? = some (oI (.int .u64 (m:Int)) (.int .u8 0) (.string ⟨#[]⟩) (.string ⟨#[]⟩)):=aB G 0 _;have ac:=d.heap aa (fun e=>by have e:g=g+1:=e;omega);have bt:=bn.box G (by decide) z d;have bu:=(R.mono (G':=fun k=>k=B\/k=g+1) (fun k hk h=>.inl h)).trans d (fun _ _ h=>.inr h);clear bn R bk c0 d;go_upto_region 5 with fail;generalize ct:Z.setCell ⟨g+1,0,none⟩ (.int .u64 (m:Int))=W2 at *;clear ct z0 d0 I aa G;have e2:=ae ac 0 rfl;have bx:base<=W2.heap.size:=by have:=(aR.1 ab).1;omega
 have bz:=ad (a6.out W2 bt bx);clear a6 bt;go_wp2_with fail;refine(bz.out).mono ?_;rintro e w3 ⟨rfl,b0,T⟩;have av:=T.heap ac (fun e=>Y e.symm);have J:=T.heap ab (fun e=>z e.symm);have z1:=az J 1;have d1:=ae J 1 rfl;have I:=ae av 0 rfl;have d:=aw w3 ⟨g+1,1,none⟩ (.int .u8 (q:Int));have b1:(w3.setCell ⟨g+1,1,none⟩ (.int .u8 (q:Int))).heap[g+1]? = some (oI (.int .u64 (m:Int)) (.int .u8 (q:Int)) (.string ⟨#[]⟩) (.string ⟨#[]⟩)):=aB J 1 _;have a0:=d.heap av (fun e=>by have e:g=g+1:=e;omega);have b2:=b0.box J (by decide) z d;have b3:=(bu.trans T (fun _ _ h=>.inl h)).trans d (fun _ _ h=>.inr h);clear b0 T bz e2 d ab ac bu bx;go_upto_region 5 with fail;generalize cz:w3.setCell ⟨g+1,1,none⟩ (.int .u8 (q:Int))=W4 at *;clear cz z1 d1 I av J;have e4:=ae a0 0 rfl;have b4:=ad (a7.out W4 b2);clear a7 b2;go_wp2_with fail;refine(b4.out).mono ?_;rintro e w5 ⟨rfl,b5,U⟩;have a2:=U.heap a0 (fun e=>Y e.symm);have K:=U.heap b1 (fun e=>z e.symm);have z2:=az K 2;have d2:=ae K 2 rfl;have I:=ae a2 0 rfl;have d:=aw w5 ⟨g+1,2,none⟩ (S y);have b8:(w5.setCell ⟨g+1,2,none⟩ (S y)).heap[g+1]? = some (oI (.int .u64 (m:Int)) (.int .u8 (q:Int)) (S y) (.string ⟨#[]⟩)):=aB K 2 _;have bA:=d.heap a2 (fun e=>by have e:g=g+1:=e;omega);have bB:=b5.box K (by decide) z d;have bR:=(b3.trans U (fun _ _ h=>.inl h)).trans d (fun _ _ h=>.inr h);clear b5 U b4 e4 d b1 a0 b3;go_upto_region 5 with fail;generalize c6:w5.setCell ⟨g+1,2,none⟩ (S y)=W6 at *;clear c6 z2 d2 I a2 K;have e6:=ae bA 0 rfl;have ca:=ad (ba.out W6 bB);clear ba bB;go_wp2_with fail;refine(ca.out).mono ?_;rintro e L ⟨rfl,cb,a3⟩;have M:=a3.heap b8 (fun e=>z e.symm);have z3:=az M 3;have d3:=ae M 3 rfl;have d:=aw L ⟨g+1,3,none⟩ (S o);have V:(L.setCell ⟨g+1,3,none⟩ (S o)).heap[g+1]? = some (oI (.int .u64 (m:Int)) (.int .u8 (q:Int)) (S y) (S o)):=aB M 3 (S o);have c9:=cb.box M (by decide) z d;have cA:=(bR.trans a3 (fun _ _ h=>.inl h)).trans d (fun _ _ h=>.inr h);clear cb a3 ca e6 d b8 bA bR;have a4:(Tryz.prog.info? 37).map (·.size)=some 4:=by kernel_rfl
 have cF:(#[Value.int .u64 (m:Int),.int .u8 (q:Int),S y,S o]:Array Value).all (·.oneCell')=true:=by rw [kj];rfl
 clear M;have cc:=fP (L.setCell ⟨g+1,3,none⟩ (S o)) (g+1) #[Value.int .u64 (m:Int),.int .u8 (q:Int),S y,S o];have cG:=c9.box V (by decide) z cc;have da:=kG (L.setCell ⟨g+1,3,none⟩ (S o)) (g+1) _ #[Value.int .u64 (m:Int),.int .u8 (q:Int),S y,S o] _ _ V;have dc:=cA.trans cc (fun _ _ h=>.inr h);have HF:Hid (ak (fun k=>k=B) w ((L.setCell ⟨g+1,3,none⟩ (S o)).setRow (g+1) #[Value.int .u64 (m:Int),.int .u8 (q:Int),S y,S o])):=(bd.chg (fun k=>k=B)).trans dc (fun k hk h=>by rcases h with h | h;exact h;rw [HG.out]at h;omega);go_wp2_with (first | (refine iQ rfl 37 (.tmp 4) rfl (g+1) rfl 37 #[.int .u64 (m:Int),.int .u8 (q:Int),S y,S o] (0,0) _ V Tryz.underlying37 rfl a4 ?_) | (refine gG rfl 37 (.tmp 4) (.tmp 22) rfl (g+1) #[.int .u64 (m:Int),.int .u8 (q:Int),S y,S o] rfl rfl 37 _ V a4 rfl cF ?_));go_wp2_with fail;(try simp only [Exit.inBlock,Exit.then]);refine b6Qb (v:=.agg #[.int .u64 (m:Int),.int .u8 (q:Int),S y,S o]) (rU Tryz.results243 _ _ (g+1) 37 #[.int .u64 (m:Int),.int .u8 (q:Int),S y,S o] (0,0) _ rfl da Tryz.underlying37 rfl a4) rfl ?_;exact⟨by rw [HR.out],cG,HF.out⟩
end Go.Proofs.YtdamnfpigajmoaaGreatDoor
