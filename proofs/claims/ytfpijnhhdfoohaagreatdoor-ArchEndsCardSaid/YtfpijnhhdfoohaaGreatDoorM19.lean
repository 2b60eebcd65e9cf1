/- Parts of the proof of ArchEnds: T3 L5 Y7 Hd2 Md2 Tr1 T5 T6 Tr2 Tr3. -/
import Derived.Test.YtfpijnhhdfoohaaGreatDoorM17
import Derived.Test.YtfpijnhhdfoohaaGreatDoorM18
import Derived.Test.YtfpijnhhdfoohaaGreatDoorM11
import Derived.Test.YtfpijnhhdfoohaaGreatDoorM00
import Derived.Test.YtfpijnhhdfoohaaGreatDoorM12
import Derived.Test.YtfpijnhhdfoohaaGreatDoorM10
import Derived.Test.YtfpijnhhdfoohaaGreatDoorM33
import Derived.Test.YtfpijnhhdfoohaaGreatDoorM30
import Derived.Test.YtfpijnhhdfoohaaGreatDoorM36
set_option linter.unusedVariables false
set_option linter.unusedSectionVars false
set_option linter.unusedSimpArgs false
set_option maxHeartbeats 8000000
set_option maxRecDepth 100000
namespace Go.Fk
abbrev vq:=@Nat.mul_le_mul_left
abbrev zn:=@List.getElem_cons_zero
end Go.Fk
namespace Go.Proofs.YtfpijnhhdfoohaaGreatDoor
open Go.RowKit Go.Fk
def rQ:Value->Nat | .slice _ n _=>n | _=>0
def sw:au Tryz.prog Hd:=⟨323,1,24,⟨none,0,0⟩,.slice none 0 0,fun h=>[h.v],by kernel_rfl,by decide,by decide,by simp [Value.cells],fun _=>rfl,by intro x u d;simp at d;subst d;rfl⟩
def qN(d:List Nat)(s:Nat):Nat:=
 if(dQ d).length=0 then 0
 else if(dQ d).length=1 then(if s=(dQ d).getD 0 0 then 1 else 0)
 else(cQ ((aY (eX d (dQ d)) 14).take (2*(dQ d).length - 2))).count s
def il(L:Nat)(f:Nat->Nat):List UInt8:=(List.range L).map fun s=>UInt8.ofNat (f s)
def cJ(d:List Nat):List UInt8:=il d.length (qN d)
theorem sE(L:Nat)(f:Nat->Nat):(il L f).length=L:=by simp [il]
theorem yy(L:Nat):il L (fun _=>0)=List.replicate L (0:UInt8):=by
 apply lj;· simp [il]
 · intro i d e;simp [il]
theorem D8(L:Nat)(f:Nat->Nat)(s c:Nat):(il L f).set s (UInt8.ofNat c)=il L (fun j=>if j=s then c else f j):=by
 apply qj;intro j;by_cases d:j<L
 · by_cases e:s=j;· subst e;rw [List.getElem?_set_self (by rw [sE];exact d)];simp [il,d]
   · rw [List.getElem?_set_ne e];simp [il,d,fy e]
 · rw [io (by simp [sE];omega),io (by rw [sE];omega)]
theorem yz(L:Nat)(f f':Nat->Nat)(h:∀ s,f s=f' s):il L f=il L f':=by rw [show f=f' from funext h]
theorem Gp(c:Nat):IntKind.u8.wrap (((UInt8.ofNat c).toNat:Int)+1)=((UInt8.ofNat (c+1)).toNat:Int):=by
  rw [qu,lP,lP];omega
theorem Sa (v : Value) (d : List Nat) (w : World) (m : ai w eV v d) (hn : d.length ≤ 300) (fl : ∀ x ∈ d, x < 4294967296) :
    Calls Tryz.prog 178 #[v,N 15] w fun e w'=>∃ v,e=.returned (.tuple #[v,.int .i64 0])/\Ow w' w.heap.size eB v (cJ d)/\Fr w w':=by
  obtain⟨a,fm,rfl,hy,fn,hz⟩:=m.shape
  unfold maxLen at fn
  have cL:=ad (FW _ d w m (by omega))
  have cN:(dQ d).length<=d.length:=by
    unfold dQ
    rw [(tK _ _ (wi d)).length_eq];exact Av d
  have cR:∀ s∈dQ d,s<d.length:=fun s h=>Au d s ((tK _ _ (wi d)).mem_iff.1 h)
  have HB:Hid (cJ d=il d.length (qN d)):=rfl
  have ak : Hid (∀ s, qN d s = if (dQ d).length = 0 then 0
    else if (dQ d).length = 1 then (if s = (dQ d).getD 0 0 then 1 else 0)
    else (cQ ((aY (eX d (dQ d)) 14).take (2 * (dQ d).length - 2))).count s) := fun _ => rfl
  generalize cJ d=RB at *
  generalize qN d=ln at *
  have b9:=ad cR
  have U:=ad cN
  clear cN
  clear cR
  generalize dQ d=o at *
  have h7:¬(300:Int)<d.length:=by omega
  have h8:¬(32768:Int)<o.length:=by have:=U.out;omega
  have cT:=oE eB rfl rfl 22 Tryz.underlying22 .i64 .i64 d.length (by omega)
  go_enter Tryz.func178, Tryz.ntmps178
  go_wp2_with fail
  refine cL.out.mono ?_
  rintro e D ⟨sv,rfl,a7,M⟩
  obtain⟨sa,sc,rfl⟩:=a7.shape'
  have ap:=ad (pL (base:=w.heap.size) eB rfl rfl d.length (by omega) D M.size)
  have K:Hid (Fr D (D.alloc (.cells (madeCells #[eB.z] d.length) eB.e))):=(Fr.refl D).alloc _
  have da:Hid ((D.alloc (.cells (madeCells #[eB.z] d.length) eB.e)).heap[D.heap.size]?=some (.cells (madeCells #[eB.z] d.length) 5 (0,0))):=a9 _ _ _ rfl
  generalize fr:madeCells #[eB.z] d.length=T0 at *
  clear fr
  rw [show(eB:au Tryz.prog UInt8).e=5 from rfl]at ap K da
  rw [show(eB:au Tryz.prog UInt8).e=5 from rfl]at cT
  have hU:=U.out
  rcases nX o.length 1 with h0 | A | Q
  · obtain rfl:o=[]:=ja (by omega)
    have HR:Hid (RB=List.replicate d.length (0:UInt8)):=by
      show _=_;rw [HB.out,<- yy];exact yz _ _ _ fun s=>by rw [ak.out];rfl
    clear HB ak
    go_wp2_with fail
    go_ret2
    exact⟨_,rfl,by rw [HR.out];exact ap.out,M.trans K.out⟩
  · obtain⟨O,rfl⟩:∃ O,o=[O]:=List.length_eq_one_iff.1 A
    have dc:=b9.out O (by simp)
    have HR:Hid (RB=(List.replicate d.length (0:UInt8)).set O 1):=by
      show _=_
      rw [HB.out,<- yy]
      have:=D8 d.length (fun _=>0) O 1
      rw [show(1:UInt8)=UInt8.ofNat 1 from rfl,this]
      exact yz _ _ _ fun s=>by rw [ak.out];rfl
    obtain⟨b,di,cp,av,c0⟩:=xW (a7.see.fr K.out) 0 (by simp)
    have bR:=ap.out
    obtain⟨d1,d2⟩:=bR.cellAt (fun c=>Fk.u8 c) rfl O (by simpa using dc)
    have bT:=bR.set (fun c=>Fk.u8 c) rfl O (by simpa using dc) 1 (.int .u8 1) rfl
    have ca:=ex (i:=O) (u:=.int .u8 1) (M.trans K.out) M.size ((M.trans K.out).size)
    rw [World.setCell_alloc_at (w:=D) _ _ _ _ _ rfl]at bT ca
    have HS:=ad bT
    have ba:=ad ca
    clear bT ca
    have hH:=M.trans K.out
    cases av
    simp only [zn,et]at c0
    simp only [cd,lh,iX]at *
    have i1:(0:Int)<=O:=by omega
    have i2:(O:Int)<d.length:=by omega
    clear HB ak bR ap da K
    go_wp2_with fail
    go_ret2
    exact⟨_,rfl,by rw [HR.out];exact HS.out,ba.out⟩
  · have bv:=Cz d o
    have bx:=C0 d o
    have dv:=ad (Jo (eX d o) 14 (by rw [bv];have:=U.out;omega))
    have f2:Hid (∀ s,ln s=dR (eX d o) 15 (2*o.length - 2) s):=fun s=>by
      rw [ak.out,ae (by omega),ae (by omega),OM (eX d o) bx 14 _ s (by have:=dv.out;rw [bv]at this;exact this)]
    have f3:=ad (Cy (eX d o) bx)
    have d0:=ad (fun W (A:ai W eV (.slice a d.length fm) d) (Q:ai W eJ (.slice sa o.length sc) o)=>Mt _ _ d o W A Q (by omega) b9.out fl)
    have bb:=ad (fun r=>Jn (eX d o) r)
    have f4:Hid (∀ j (h:j<o.length),(eX d o)[j]?.map (·.syms)=some [o[j]]):=fun j h=>by rw [C1 d o j h];rfl
    clear ak
    have hI:((o.length:Int) == 1)=false:=by simp;omega
    have hJ:¬(o.length:Int)<2:=by omega
    have hK:¬o.length=1:=by omega
    have hL:(eX d o).length<=300:=by omega
    have cb:=ad bv
    have f5:=ad bx
    clear bv bx
    generalize eX d o=z at *
    have d3:=m.fr (M.trans K.out)
    have d4:=a7.see.fr K.out
    go_wp2_with fail
    refine(d0.out _ d3 d4).mono ?_
    rintro e w3 ⟨hM,rfl,cc,cf⟩
    obtain⟨V,X,rfl⟩:=cc.shape'
    have d5:=ad (ap.out.fr cf)
    have d6:=ad ((a7.fr K.out).fr cf)
    have ba:=ad ((M.trans K.out).trans cf)
    clear d3 d4 ap a7 d0 K m cL cT
    go_wp2_with fail
    have ch:=ad (n9 (base:=w.heap.size) sw w3 #[Value.slice V z.length X] [⟨V,z.length,X⟩] 1 rfl (by simp [maxLen]) ba.out.size rfl)
    have bd:Fr w3 (w3.alloc (.cells #[Value.slice V z.length X] 323)):=(Fr.refl w3).alloc _
    rw [show(sw:au Tryz.prog Hd).e=323 from rfl]at ch
    have d7:=ad (d5.out.fr bd)
    have d8:=ad (d6.out.fr bd)
    have d9:=ad (ba.out.trans bd)
    have cj:=ad ((cc.rebase (M.trans ((Fr.refl D).alloc (.cells T0 5))).size).fr bd)
    clear d5 d6 ba cc
    generalize w3.alloc (.cells #[Value.slice V z.length X] 323)=w4 at *
    clear bd
    go_loopw [9] (fun Y wr=>∃ (m:List Hd),1<=m.length/\m.length<=15/\Ow wr w.heap.size sw Y m/\Hid (∀ t (h:t<m.length),Ow wr w.heap.size dz m[t].v (aY z t))/\Hid (Ow wr w.heap.size dz (.slice V z.length X) z)/\Hid (Ow wr w.heap.size eB (.slice (some ⟨D.heap.size,0,none⟩) d.length d.length) (List.replicate d.length (0:UInt8)))/\Hid (Ow wr w.heap.size eJ (.slice sa o.length sc) o)/\Fr w wr) (fun Y _=>16 - rQ Y)
    case atStart => exact ⟨[⟨V, z.length, X⟩], by simp, by simp, ch.out, fun t h => by
      obtain rfl : t = 0 := by simpa using h
      exact cj.out, cj.out, d7.out, d8.out, d9.out⟩
    case round=>
      clear ch d7 d8 d9 cj
      obtain⟨m,hR,hS,a0,a1,b0,Z,bf,bk⟩:=hrel
      obtain⟨ra,rc,ck⟩:=a0.shape'
      by_cases f9:m.length<15
      · have fB:(m.length:Int)<15:=by omega
        obtain⟨b,di,cp,av,c0⟩:=a0.see.cell1 (fun h:Hd=>h.v) rfl (m.length - 1) (by omega)
        rw [ck]at av
        cases av
        have hT:IntKind.i64.wrap ((m.length:Int) - 1)=((m.length - 1:Nat):Int):=by rw [aw _ (by omega)];omega
        have dE:=a1.out (m.length - 1) (by omega)
        have cl:=ad (Lu (.slice V z.length X) _ z (aY z (m.length - 1)) wr b0.out.see dE.see (by omega) (by have:=bb.out (m.length - 1);omega))
        have dT:Hid (ci z (cX (aY z (m.length - 1)))=aY z m.length):=by
          show _=_
          obtain⟨q,hq⟩:∃ q,m.length=q+1:=⟨m.length - 1,by omega⟩
          rw [hq];rfl
        rw [dT.out]at cl
        generalize m[m.length - 1]=J at *
        have i1:(0:Int)<=((m.length - 1:Nat):Int):=by omega
        have i2:((m.length - 1:Nat):Int)<m.length:=by omega
        have hV:m.length - 1<m.length:=by omega
        have fC:Hid (m.length+1<=15):=f9
        clear dE
        subst ck
        generalize m.length - 1=k1 at *
        go_wp2_with fail
        refine cl.out.mono ?_
        rintro e w5 ⟨nv,rfl,cm,a2⟩
        obtain⟨na,nc,rfl⟩:=cm.shape'
        have cs:=bk.trans a2
        have aa:=a0.fr a2
        have fD:=ad (fun t (h:t<m.length)=>(a1.out t h).fr a2)
        have fN:=ad (b0.out.fr a2)
        have fP:=ad (Z.out.fr a2)
        have fQ:=ad (bf.out.fr a2)
        have fS:=ad (cm.rebase bk.size)
        clear a0 a1 b0 Z bf cm bk cl dT c0
        go_wp2_with (at_builtin;refine cW sw rfl (.tmp 57) (.tmp 66) 325 rfl Tryz.underlying325 w.heap.size rfl aa [⟨na,(aY z m.length).length,nc⟩] _ _ _ rfl rfl rfl (by simp;omega) cs.size ?_)
        intro v' w6 ab
        have eq:=ab.own
        obtain⟨va,vc,gb⟩:=eq.shape'
        have gc:Hid (∀ t (h:t<(m++[(⟨na,(aY z m.length).length,nc⟩:Hd)]).length),Ow w6 w.heap.size dz (m++[(⟨na,(aY z m.length).length,nc⟩:Hd)])[t].v (aY z t)):=fun t h=>by
          by_cases ht:t<m.length
          · rw [of ht]
            exact fX (fD.out t ht) aa ab (by decide)
          · obtain rfl:t=m.length:=by simp at h;omega
            rw [nu (am _)]
            simp only [gu,zn]
            exact fX fS.out aa ab (by decide)
        have ge:=ad (fX fN.out aa ab (by decide))
        have gg:=ad (fX fP.out aa ab (by decide))
        have gi:=ad (fX fQ.out aa ab (by decide))
        subst gb
        go_wp2_with fail
        go_roundw
        case rel=>exact⟨_,by simp,by simpa using fC.out,eq,gc,ge,gg,gi,ab.below aa cs (am _) cs.size⟩
        case measure=>simp [rQ];omega
      · have gs:m.length=15:=by omega
        have fB:¬(m.length:Int)<15:=by omega
        subst ck
        generalize wr=wm at *
        have hg:w.heap.size<=D.heap.size:=M.size
        -- what stays while bytes count
        have es:Hid (∀ W,ah (fun k=>k=D.heap.size) wm W->∀ t (h:t<m.length),ai W dz m[t].v (aY z t)):=fun W I t h=>
          ((a1.out t h).chg I fun k J e => by
            rw [e] at J
            rcases jg (a1.out t h) Z.out (by decide) with A | A
            · rw [A] at J; cases J
            · exact A J).see
        have g0:Hid (∀ W,ah (fun k=>k=D.heap.size) wm W->ai W eJ (.slice sa o.length sc) o):=fun W I=>
          (bf.out.chg I fun k J e => by
            rw [e] at J
            rcases jg bf.out Z.out (by decide) with A | A
            · rw [A] at J; cases J
            · exact A J).see
        have g1:Hid (∀ W,ah (fun k=>k=D.heap.size) wm W->ai W sw (.slice ra m.length rc) m):=fun W I=>
          (a0.chg I fun k J e => by
            rw [e] at J
            rcases jg a0 Z.out (by decide) with A | A
            · rw [A] at J; cases J
            · exact A J).see
        have cu:=Z.out
        rw [<- yy]at cu
        have ev:2*o.length - 2<=(aY z 14).length:=by have:=dv.out;rw [cb.out]at this;exact this
        have e0:=ad ev
        have g2:=ad (fun q t h=>Cy z f5.out q t h)
        have ic:IntKind.i64.wrap (2*(o.length:Int))=((2*o.length:Nat):Int):=by rw [aw _ (by have:=U.out;omega)];omega
        have ih:IntKind.i64.wrap (((2*o.length:Nat):Int) - 2)=((2*o.length - 2:Nat):Int):=by rw [aw _ (by have:=U.out;omega)];omega
        have ij:o.length<=d.length:=U.out
        clear ev a1 b0 Z bf f3
        generalize 2*o.length - 2=t0 at *
        generalize 2*o.length=t1 at *
        go_wp2_with fail
        go_loopw [10,11] (fun tv Y wr=>∃ (q t:Nat) (R:Nat->Nat),q<=15/\Y=.int .i64 ((q:Int) - 1)/\tv=N t/\t<=1200/\Hid (0<q->t<=(aY z (q - 1)).length)/\Ow wr w.heap.size eB (.slice (some ⟨D.heap.size,0,none⟩) d.length d.length) (il d.length R)/\Hid (∀ s,ln s=R s+dR z q t s)/\ah (fun k=>k=D.heap.size) wm wr) (fun _ Y _=>(intOf Y+1).toNat)
        case atStart=>exact⟨15,t0,fun _=>0,am _,by first | rfl | (rw [gs];rfl),by first | rfl | go_num,by have A:=e0.out;have Q:=bb.out 14;omega,fun _=>e0.out,cu,fun s=>by rw [iX];exact f2.out s,ah.refl _ _⟩
        case round=>
          clear cu
          obtain⟨q,t,R,hq,rfl,rfl,ht,HT,hO,HF,I⟩:=hrel
          rcases jU q with rfl | hp
          · have a4:¬(0:Int)<=((0:Nat):Int) - 1:=by omega
            have HE:Hid (RB=il d.length R):=by
              show _=_;rw [HB.out];exact yz _ _ _ fun s=>by rw [HF.out s];simp [dR]
            clear HT HF
            go_wp2_with fail
            go_ret2
            exact⟨_,rfl,by rw [HE.out];exact hO,ah.below bk I bk.size (fun i hi=>by rw [hi];exact hg)⟩
          · obtain⟨r,rfl⟩:∃ r,q=r+1:=⟨q - 1,by omega⟩
            have bl:=HT.out hp
            simp only [Nat.add_sub_cancel]at bl
            have er:((r+1:Nat):Int) - 1=(r:Int):=by omega
            rw [er]
            have i0:(0:Int)<=(r:Int):=by omega
            have c5:r<m.length:=by omega
            have i6:(r:Int)<m.length:=by omega
            have i7:IntKind.i64.wrap ((r:Int) - 1)=(r:Int) - 1:=aw _ (by omega)
            obtain⟨b,di,cp,av,c0⟩:=(g1.out _ I).cell1 (fun h:Hd=>h.v) rfl r c5
            cases av
            have b3:=es.out _ I r c5
            obtain⟨xa,xc,c6,i8,ji,_⟩:=b3.shape
            rw [c6]at c0 b3
            obtain⟨gO,ha⟩:=gD dz 323 Tryz.underlying323 b3 t bl
            have j0:=ad gO
            have b5:=g2.out r t bl
            have hb:Hid (t<=600):=by show _<=_;have:=bb.out r;omega
            have e3:Hid (∀ s,ln s=R s+((cQ (z.take (bz ((aY z r).take t)))).count s+dR z r (2*(t - bz ((aY z r).take t))) s)):=fun s=>HF.out s
            have hd:Hid (∀ W,ah (fun k=>k=D.heap.size) wm W->ai W dz (.slice xa t xc) ((aY z r).take t)):=fun W h=>by
              have:=es.out W h r c5
              rw [c6]at this
              exact(gD dz 323 Tryz.underlying323 this t bl).2
            clear c6 b3 ha HT HF er
            have e4:((aY z r).take t).length=t:=by rw [aG];omega
            generalize he:(aY z r).take t=B at *
            have e5:=e4
            have bm:=ad e5
            have j1:t<=xc:=by omega
            clear e4 e5 bl he
            go_wp2_with fail
            generalize wr=wq at *
            go_loopw [12,86] (fun nv jv wr=>∃ (j:Nat) (F:Nat->Nat),j<=t/\jv=N j/\nv=N (bz (B.take j))/\Ow wr w.heap.size eB (.slice (some ⟨D.heap.size,0,none⟩) d.length d.length) (il d.length F)/\Hid (∀ s,F s=R s+(cQ (z.take (bz (B.take j)))).count s)/\ah (fun k=>k=D.heap.size) wm wr) (fun _ jv _=>t - (intOf jv).toNat)
            case atStart=>exact⟨0,R,an _,rfl,rfl,hO,fun s=>by simp [bz,cQ],I⟩
            case round=>
              clear hO I
              obtain⟨j,F,hj,rfl,rfl,hO,HG,I⟩:=hrel
              by_cases hf:j<t
              · have j4:(j:Int)<t:=by omega
                have e6:j<B.length:=by rw [bm.out];exact hf
                obtain⟨b2,j6,j7,e7,c1,c2⟩:=qO (hd.out _ I) j e6
                rw [bm.out]at e7
                cases e7
                have a5:=ad (Mu B j e6)
                have e8:=ad (Mv B (j+1) t (by omega))
                rw [show B.take t=B by rw [<- bm.out,dO]]at e8
                generalize B[j]=x at *
                have i1:(0:Int)<=j:=by omega
                have hA:Fr wr (wr.alloc (.cells #[.int .u64 (x.w.toNat:Int),.bool x.leaf] 328)):=(Fr.refl wr).alloc _
                have hB:(wr.alloc (.cells #[.int .u64 (x.w.toNat:Int),.bool x.leaf] 328)).heap[wr.heap.size]?=some (.cells #[.int .u64 (x.w.toNat:Int),.bool x.leaf] 328 (0,0)):=a9 _ _ _ rfl
                have c3:(wr.alloc (.cells #[.int .u64 (x.w.toNat:Int),.bool x.leaf] 328)).cell? ⟨wr.heap.size,1,none⟩=some (.bool x.leaf):=by rw [aA hB];rfl
                clear hB
                have c9:=hO.fr hA
                have cA:=I.trans (hA.chg (fun k=>k=D.heap.size)) (fun _ _ h=>h)
                clear hO I hA
                go_upto_region 23 with fail
                generalize wr.alloc (.cells #[.int .u64 (x.w.toNat:Int),.bool x.leaf] 328)=wx at *
                by_cases b6:x.leaf=true
                · rw [ag b6]at a5
                  have a4:bz (B.take j)<o.length:=by have A:=e8.out;have Q:=b5.2.1;have h3:=a5.out;have h4:=cb.out;omega
                  obtain⟨b4,ke,kk,hl,c4⟩:=xW (g0.out _ cA) (bz (B.take j)) a4
                  cases hl
                  have cB:=b9.out _ (bX a4)
                  have fb:Hid (∀ s,(cQ (z.take (bz (B.take j)+1))).count s=(cQ (z.take (bz (B.take j)))).count s+if o[bz (B.take j)]=s then 1 else 0):=fun s=>by
                    have A:=f4.out _ a4
                    have fc:bz (B.take j)<z.length:=by rw [cb.out];exact a4
                    rw [bE fc]at A
                    rw [Ht z _ fc _ (jy A),vE,List.count_singleton]
                    simp
                  have fe:Hid (bz (B.take (j+1))=bz (B.take j)+1):=a5.out
                  generalize o[bz (B.take j)]=G at *
                  generalize bz (B.take j)=L at *
                  have b7:=sE d.length F
                  obtain⟨d1,d2⟩:=c9.cellAt (fun c=>Fk.u8 c) rfl G (by rw [b7];exact cB)
                  have fh:(il d.length F)[G]'(by rw [b7];exact cB)=UInt8.ofNat (F G):=by simp [il]
                  rw [fh]at d1
                  replace d1:wx.cell? ⟨D.heap.size,G,none⟩=some (.int .u8 ((UInt8.ofNat (F G)).toNat:Int)):=d1
                  have km:=Gp (F G)
                  have fk:=ad (c9.set (fun c=>Fk.u8 c) rfl G (by rw [b7];exact cB) (UInt8.ofNat (F G+1)) (.int .u8 ((UInt8.ofNat (F G+1)).toNat:Int)) rfl)
                  rw [D8]at fk
                  have hm:Hid (∀ s,(if s=G then F G+1 else F s)=R s+(cQ (z.take (L+1))).count s):=fun s=>by
                    rw [fb.out s]
                    by_cases e:s=G
                    · subst e;rw [ag rfl,ag rfl,HG.out s];omega
                    · rw [ae e,ae (fy e),HG.out s];omega
                  have kn:=kF (UInt8.ofNat (F G))
                  clear HG fb fh b7
                  have i2:(0:Int)<=L:=by omega
                  have i3:(L:Int)<o.length:=by omega
                  have i4:(0:Int)<=G:=by omega
                  have i5:(G:Int)<d.length:=by omega
                  have kv:IntKind.i64.wrap ((L:Int)+1)=((L+1:Nat):Int):=by rw [aw _ (by have:=U.out;omega)];omega
                  rw [b6]at c3
                  generalize (UInt8.ofNat (F G)).toNat=kx at *
                  generalize (UInt8.ofNat (F G+1)).toNat=ky at *
                  go_wp2_with fail
                  go_roundw
                  case rel=>exact⟨j+1,(fun s=>if s=G then F G+1 else F s),by omega,by go_num,by rw [fe.out];first | rfl | go_num,fk.out,by rw [fe.out];exact hm.out,cA.trans (ao wx _ _) (fun _ _ h=>h)⟩
                  case measure=>simp [intOf];omega
                · have ho:x.leaf=false:=by simpa using b6
                  rw [ae b6,et]at a5
                  rw [ho]at c3
                  go_wp2_with fail
                  go_roundw
                  case rel=>exact⟨j+1,F,by omega,by go_num,by rw [a5.out];exact rfl,c9,by rw [a5.out];exact HG.out,cA⟩
                  case measure=>simp [intOf];omega
              · obtain rfl:j=t:=by omega
                have a4:¬((j:Int)<j):=by omega
                have hr:B.take j=B:=by rw [<- bm.out,dO]
                rw [hr]at HG ⊢
                have A:=b5.1
                have Q:=b5.2.2
                generalize bz B=L at *
                have k0:IntKind.i64.wrap ((j:Int) - L)=((j - L:Nat):Int):=by rw [aw _ (by omega)];omega
                have k2:IntKind.i64.wrap (2*((j - L:Nat):Int))=((2*(j - L):Nat):Int):=by rw [aw _ (by omega)];omega
                have K:Hid (∀ s,ln s=F s+dR z r (2*(j - L)) s):=fun s=>by rw [e3.out s,HG.out s];omega
                have H2:=ad Q
                have hv:2*(j - L)<=1200:=by
                  rcases jU r with e | e
                  · have:=bb.out 0;subst e;have h4:=bm.out;have h5:=hb.out;omega
                  · have:=Q e;have h6:=bb.out (r - 1);omega
                clear HG e3 b5 Q
                generalize 2*(j - L)=t2 at *
                generalize j - L=t3 at *
                go_wp2_with fail
                go_roundw
                case rel=>exact⟨r,t2,F,by omega,by first | rfl | go_num,by first | rfl | go_num,hv,H2.out,hO,K,I⟩
                case measure=>simp [intOf]
theorem Oo(d:List It)(s:Nat):∀ r t,nH d r t s<=(r+1)*(cQ d).count s:=by
 have e:∀ k,(cQ (d.take k)).count s<=(cQ d).count s:=fun k=>by
  conv=>rhs;rw [<- j9 k d,Aw,vE]
  omega
 intro r
 induction r with
 | zero=>intro t;have:=e (bz ((aY d 0).take t));rw [nH];omega
 | succ r h=>intro t;rw [nH];have m:=e (bz ((aY d (r+1)).take t));have o:=h (2*(t - bz ((aY d (r+1)).take t)));rw [bU (r+1) 1];omega
theorem Hu(d:List Nat):∀ l:List Nat,cQ (eX d l)=l:=by
 intro l
 induction l with
 | nil=>rfl
 | cons x l e=>show cQ (_::eX d l)=_;rw [pq,e];rfl
theorem As(d:List Nat):(kJ d).Pairwise (·<·):=by
 unfold kJ;exact List.pairwise_lt_range.filter _
theorem Ms(d:List Nat)(s:Nat):qN d s<=15:=by
 unfold qN;split;· omega
 · split;· split <;> omega
   · have q:(dQ d).count s<=1:=(by have m:=tK (fun s=>d.getD s 0) (kJ d) (As d);unfold dQ;rw [m.count_eq];exact List.nodup_iff_count.1 ((As d).imp fun {a b} h e=>by omega) s);generalize 2*(dQ d).length - 2=t;have o:=C0 d (dQ d);have e:(aY (eX d (dQ d)) 14).take t=(aY (eX d (dQ d)) 14).take (min t (aY (eX d (dQ d)) 14).length):=by
      rcases Nat.le_total t (aY (eX d (dQ d)) 14).length with h | h;· rw [gx h]
      · rw [Nat.min_eq_right h,eC h,dO]
     rw [e,Dp _ o s 14 _ (Nat.min_le_right _ _)];have:=Oo (eX d (dQ d)) s 14 (min t (aY (eX d (dQ d)) 14).length);rw [Hu]at this;omega
theorem xS(d:List Nat):(cJ d).length=d.length:=sE _ _
theorem xT(d:List Nat):∀ c∈cJ d,c.toNat<=15:=by
 intro c e;unfold cJ il at e;obtain⟨s,_,rfl⟩:=g6.1 e;have:=Ms d s;rw [lP];omega
def Qx(e:Nat)(p:Bool)(h d q c:Nat)(b:List UInt8):List UInt8:=
 fV (CO e p h d q c b.length)++C6 b d q c (bg d c b.length)++fV (CO e p h d q c b.length)
def hX(h:List UInt8):Nat:=(h.getD 5 0).toNat
def jm(h:List UInt8):Nat:=(h.getD 6 0).toNat
def hD(h:List UInt8):Nat:=(h.getD 7 0).toNat
def hQ(h:List UInt8):Nat:=(h.getD 8 0).toNat
def hC(h:List UInt8):Nat:=cK ((h.drop 9).take 2)
def lK(h:List UInt8):Nat:=cK ((h.drop 11).take 2)
def hN(h:List UInt8):Nat:=cK ((h.drop 13).take 4)
def hP(h:List UInt8):Bool:=decide (hX h=1)
def bY(h:List UInt8):dN:=⟨(lK h:Int),hP h,(jm h:Int),(hD h:Int),(hQ h:Int),(hC h:Int)⟩
theorem BE(h:List UInt8)(d:gY (bY h)=true):16<=lK h/\lK h<=32768/\1<=jm h/\jm h<=64/\1<=hD h/\hD h+hQ h<=255/\1<=hC h/\hC h<=4096:=by
 have e:=(xy _).1 d;obtain⟨m,o,k3,q,z,A,B,D,F,G⟩:=e;simp only [bY]at m o k3 q z A B D F G;refine⟨?_,?_,?_,?_,?_,?_,?_,?_⟩ <;> omega
def mW(b:List UInt8):List UInt8:=(b.drop 21).take (b.length - 42)
def fF(b:List UInt8):Nat × List UInt8 × List Nat:=fi (hD (ax b)) (hQ (ax b)) (hC (ax b)) (hN (ax b)) (mW b)
def bw(b:List UInt8):Nat × List UInt8 × Nat:=
 if b.length<42 then(1,[],0)else if em b=false then(5,[],0)else if 1<hX (ax b)then(2,[],0)else if gY (bY (ax b))=false then(9,[],0)
 else if(fF b).1=0 then(0,(fF b).2.1,(fF b).2.2.length+(if b.take 21=b.drop (b.length - 21)then 0 else 1))else((fF b).1,[],0)
theorem DX(b:List UInt8)(h:b.length<42):bw b=(1,[],0):=by unfold bw;rw [ag h]
theorem DW(b:List UInt8)(h:¬b.length<42)(d:em b=false):bw b=(5,[],0):=by unfold bw;rw [ae h,ag d]
theorem Eb(b:List UInt8)(h:¬b.length<42)(d:em b=true)(e:1<hX (ax b)):bw b=(2,[],0):=by unfold bw;rw [ae h,ae (by rw [d];simp),ag e]
theorem DZ(b:List UInt8)(h:¬b.length<42)(d:em b=true)(e:¬1<hX (ax b))(m:gY (bY (ax b))=false):bw b=(9,[],0):=by unfold bw;rw [ae h,ae (by rw [d];simp),ae e,ag m]
theorem DY(b:List UInt8)(h:¬b.length<42)(d:em b=true)(e:¬1<hX (ax b))(m:gY (bY (ax b))=true)(o:(fF b).1≠0):bw b=((fF b).1,[],0):=by unfold bw;rw [ae h,ae (by rw [d];simp),ae e,ae (by rw [m];simp),ae o]
theorem Ea(b:List UInt8)(h:¬b.length<42)(d:em b=true)(e:¬1<hX (ax b))(m:gY (bY (ax b))=true)(o:(fF b).1=0):bw b=(0,(fF b).2.1,(fF b).2.2.length+(if b.take 21=b.drop (b.length - 21)then 0 else 1)):=by unfold bw;rw [ae h,ae (by rw [d];simp),ae e,ae (by rw [m];simp),ag o]
theorem Nj(b:List UInt8)(h:¬b.length<42):(ax b).length=21:=by
 unfold ax;split;· rw [aG];omega
 · rw [aU];omega
theorem xY(b:List UInt8):(mW b).length=b.length - 42:=by
 unfold mW;rw [aG,aU];omega
theorem AF(k m c:Nat)(l:List UInt8)(a:Nat)(h:a+(k+m)*(c+4)<=l.length)(d:(eT k m c l a).1=0):(eT k m c l a).2.flatten.length=k*c:=by
 unfold eT at d ⊢;simp only at d ⊢;by_cases e:(bq (bW l c a (k+m))).length<k;· rw [ag e]at d;cases d
 · rw [ae e]at d ⊢;by_cases o:ox (lE k m c ((bq (bW l c a (k+m))).take k) (im ((bq (bW l c a (k+m))).take k) (ei l c a (k+m)))) (ei l c a (k+m)) (bW l c a (k+m))=true;· rw [ag o];have q:(im ((bq (bW l c a (k+m))).take k) (ei l c a (k+m))).length=k:=(by rw [sL,aG];omega);have z:∀ p∈im ((bq (bW l c a (k+m))).take k) (ei l c a (k+m)),p.length=c:=sO (bW l c a (k+m)) (ei l c a (k+m)) c _ (fun r A=>jV A) (B6 l c a (k+m) h) (by rw [sn,ui]);have B:=xG k m c ((bq (bW l c a (k+m))).take k) _ q z;rw [yg c _ (fun p D=>B p (jV D)),aG,xF,gx (by omega)]
   · rw [ae o]at d;cases d
theorem wU(k m c:Nat)(l:List UInt8):∀ (f s:Nat) (d:List UInt8) (e:List Nat),(s+f)*((k+m)*(c+4))<=l.length->(fj k m c l f s d e).1=0->(fj k m c l f s d e).2.1.length=d.length+f*(k*c)
 | 0,_,d,e=>fun _ _=>by simp [fj]
 | f+1,s,d,e=>fun q h=>by
  have z:s*((k+m)*(c+4))+(k+m)*(c+4)<=l.length:=by
   have:=dm ((k+m)*(c+4)) (show s+1<=s+(f+1) by omega)
   rw [bU s 1,j8]at this
   omega
  unfold fj at h ⊢
  by_cases o:(eT k m c l (s*((k+m)*(c+4)))).1=0
  · simp only [o,mA]at h ⊢
    rw [wU k m c l f (s+1) _ _ (by rw [show s+1+f=s+(f+1) by omega];exact q) h,aD,AF k m c l _ z o,bU]
    omega
  · simp only [o,if_false]at h
theorem JH(k m c:Nat)(l:List UInt8)(f s:Nat)(d:List UInt8)(e:List Nat)(h:(eT k m c l (s*((k+m)*(c+4)))).1=0) :
  fj k m c l (f+1) s d e=fj k m c l f (s+1) (d++(eT k m c l (s*((k+m)*(c+4)))).2.flatten) (e++mZ l c (s*((k+m)*(c+4))) (k+m) (s*(k+m))):=by
 rw [fj];simp only [h,mA]
theorem JG(k m c:Nat)(l:List UInt8)(f s:Nat)(d:List UInt8)(e:List Nat)(h:(eT k m c l (s*((k+m)*(c+4)))).1≠0) :
  fj k m c l (f+1) s d e=((eT k m c l (s*((k+m)*(c+4)))).1,[],[]):=by
 rw [fj];simp only [h,if_false]
theorem wT(k m c n:Nat)(l:List UInt8)(h:8388608<n):fi k m c n l=(13,[],[]):=by unfold fi;rw [ag h]
theorem wR(k m c n:Nat)(l:List UInt8)(h:¬8388608<n)(d:16777216<bg k c n*((k+m)*(c+4))):fi k m c n l=(6,[],[]):=by unfold fi;rw [ae h,ag d]
theorem wP(k m c n:Nat)(l:List UInt8)(h:¬8388608<n)(d:¬16777216<bg k c n*((k+m)*(c+4)))(e:l.length<bg k c n*((k+m)*(c+4))):fi k m c n l=(1,[],[]):=by unfold fi;rw [ae h,ae d,ag e]
theorem wQ(k m c n:Nat)(l:List UInt8)(h:¬8388608<n)(d:¬16777216<bg k c n*((k+m)*(c+4)))(e:bg k c n*((k+m)*(c+4))<l.length):fi k m c n l=(2,[],[]):=by unfold fi;rw [ae h,ae d,ae (by omega),ag e]
theorem wS(k m c n:Nat)(l:List UInt8)(h:¬8388608<n)(d:¬16777216<bg k c n*((k+m)*(c+4)))(e:l.length=bg k c n*((k+m)*(c+4))) :
  fi k m c n l = (let r := fj k m c l (bg k c n) 0 [] []
   if r.1 = 0 then (if (r.2.1.drop n).all (· == 0) then (0, r.2.1.take n, r.2.2) else (2, [], [])) else (r.1, [], [])) := by unfold fi; rw [ae h, ae d, ae (by omega), ae (by omega)]
def nA(o:dN):Int:=if gY o then 0 else 9
theorem Ni (v : Value) (h : List UInt8) (w : World) (hs : ai w eB v h) (L : h.length = 21) :
    Calls Tryz.prog 134 #[v] w fun e U=>Fr w U/\((1<hX h/\e=.returned (.tuple #[.pointer none,.int .i64 2]))\/(hX h<=1/\∃ g,e=.returned (.tuple #[.pointer (some ⟨g,0,none⟩),.int .i64 (nA (bY h))])/\w.heap.size<=g/\U.heap[g]?=some (qT (lK h) (hP h) (jm h) (hD h) (hQ h) (hC h) (hN h) (.int .u8 (hX h:Int))))):=by
  obtain⟨a0,dr,rfl,fh,fk,_⟩:=hs.shape;obtain⟨fa,fc,ak,ap⟩:=iy eB 22 Tryz.underlying22 hs 5 (by omega);rw [L,show 21 - 5=16 from rfl]at ak ap;rw [L];have fl:∀ W,(Instr.slice 22 (.slice a0 21 dr) (some (.int .i64 5)) none none).run Tryz.prog W=.ok (.slice fa 16 fc) W:=ak;clear ak;have d1:(h.drop 5).length=16:=(by rw [aU,L]);have b8:=ad (m8 _ (h.drop 5) w ap (by omega));have g0:(h.drop 5).getD 0 0=h.getD 5 0:=(by rw [cZ _ _ _ (by omega),cZ _ _ _ (by omega)];simp);have g1:(h.drop 5).getD 1 0=h.getD 6 0:=(by rw [cZ _ _ _ (by omega),cZ _ _ _ (by omega)];simp);have g2:(h.drop 5).getD 2 0=h.getD 7 0:=(by rw [cZ _ _ _ (by omega),cZ _ _ _ (by omega)];simp);have g3:(h.drop 5).getD 3 0=h.getD 8 0:=(by rw [cZ _ _ _ (by omega),cZ _ _ _ (by omega)];simp);have q1:((h.drop 5).drop 4).take 2=(h.drop 9).take 2:=(by rw [mF]);have q2:((h.drop 5).drop 6).take 2=(h.drop 11).take 2:=(by rw [mF]);have q3:((h.drop 5).drop 8).take 4=(h.drop 13).take 4:=(by rw [mF]);have av:=ad (fun B W (d:ar W 130 B w.heap.size (h.drop 5) 0 0) (m:w.heap.size<=W.heap.size)=>vg B w.heap.size 0 (h.drop 5) W d (by omega) (by omega) m);have a1:=ad (fun B W (d:ar W 130 B w.heap.size (h.drop 5) 1 0) (m:w.heap.size<=W.heap.size)=>vg B w.heap.size 1 (h.drop 5) W d (by omega) (by omega) m);have a2:=ad (fun B W (d:ar W 130 B w.heap.size (h.drop 5) 2 0) (m:w.heap.size<=W.heap.size)=>vg B w.heap.size 2 (h.drop 5) W d (by omega) (by omega) m);have a3:=ad (fun B W (d:ar W 130 B w.heap.size (h.drop 5) 3 0) (m:w.heap.size<=W.heap.size)=>vg B w.heap.size 3 (h.drop 5) W d (by omega) (by omega) m);have a4:=ad (fun B W (d:ar W 130 B w.heap.size (h.drop 5) 4 0) (m:w.heap.size<=W.heap.size)=>vf B w.heap.size 4 2 (h.drop 5) W d (by omega) (by omega) (by omega) (by omega) m);have a5:=ad (fun B W (d:ar W 130 B w.heap.size (h.drop 5) 6 0) (m:w.heap.size<=W.heap.size)=>vf B w.heap.size 6 2 (h.drop 5) W d (by omega) (by omega) (by omega) (by omega) m);have a6:=ad (fun B W (d:ar W 130 B w.heap.size (h.drop 5) 8 0) (m:w.heap.size<=W.heap.size)=>vf B w.heap.size 8 4 (h.drop 5) W d (by omega) (by omega) (by omega) (by omega) m);rw [g0]at av;rw [g1]at a1;rw [g2]at a2;rw [g3]at a3;rw [q1]at a4;rw [q2]at a5;rw [q3]at a6;have HO:=ad (fun W=>show Calls Tryz.prog 28 #[.int .i64 3,cS (bY h)] W fun e U=>e=.returned (.int .i64 (nA (bY h)))/\Fr W U from RO (bY h) W);have cb:Hid (cS (bY h)=.agg #[N (cK ((h.drop 11).take 2)),.bool (decide ((h.getD 5 0).toNat=1)),N (h.getD 6 0).toNat,N (h.getD 7 0).toNat,N (h.getD 8 0).toNat,N (cK ((h.drop 9).take 2))]):=rfl;have d6:Hid (∀ xv,qT (lK h) (hP h) (jm h) (hD h) (hQ h) (hC h) (hN h) xv=qT (cK ((h.drop 11).take 2)) (decide ((h.getD 5 0).toNat=1)) (h.getD 6 0).toNat (h.getD 7 0).toNat (h.getD 8 0).toNat (cK ((h.drop 9).take 2)) (cK ((h.drop 13).take 4)) xv):=fun _=>rfl;have aC:Hid (hX h=(h.getD 5 0).toNat):=rfl;rw [cb.out]at HO;have b1:=kF (h.getD 5 0);have b2:=kF (h.getD 6 0);have b3:=kF (h.getD 7 0);have b4:=kF (h.getD 8 0);have c1:cK ((h.drop 9).take 2)<256 ^ 2:=(by have:=pN ((h.drop 9).take 2);rw [aG,aU,L]at this;exact this);have c2:cK ((h.drop 11).take 2)<256 ^ 2:=(by have:=pN ((h.drop 11).take 2);rw [aG,aU,L]at this;exact this);have c3:cK ((h.drop 13).take 4)<256 ^ 4:=(by have:=pN ((h.drop 13).take 4);rw [aG,aU,L]at this;exact this);rw [show(256:Nat) ^ 2=65536 from by decide]at c1 c2;rw [show(256:Nat) ^ 4=4294967296 from by decide]at c3;clear g0 g1 g2 g3 q1 q2 q3 hs ap d1 L cb;generalize nA (bY h)=OE at *;generalize cK ((h.drop 9).take 2)=F at *;generalize cK ((h.drop 11).take 2)=G at *;generalize cK ((h.drop 13).take 4)=o at *;generalize (h.getD 5 0).toNat=x at *;generalize (h.getD 6 0).toNat=q at *;generalize (h.getD 7 0).toNat=z at *;generalize (h.getD 8 0).toNat=A at *;generalize h.drop 5=l5 at *;have w1:IntKind.i64.wrap (q:Int)=(q:Int):=iJ _ (by omega);have w2:IntKind.i64.wrap (z:Int)=(z:Int):=iJ _ (by omega);have w3:IntKind.i64.wrap (A:Int)=(A:Int):=iJ _ (by omega);have w4:IntKind.i64.wrap (F:Int)=(F:Int):=iJ _ (by omega);have w5:IntKind.i64.wrap (G:Int)=(G:Int):=iJ _ (by omega);have w6:IntKind.i64.wrap (o:Int)=(o:Int):=iJ _ (by omega);have f7:((x:Int) == 1)=decide (x=1):=(by rw [show((x:Int) == 1)=decide ((x:Int)=1)from rfl];exact vk.2 ⟨fun h=>by omega,fun h=>by omega⟩);generalize decide (x=1)=p at *;go_enter Tryz.func134, Tryz.ntmps134;go_wp2_with fail;refine(b8.out).mono ?_;rintro e W1 ⟨B,rfl,cf,V,f9⟩;have ch:=ad (av.out B W1 cf V.size);go_wp2_with fail;refine(ch.out).mono ?_;rintro e I ⟨rfl,ba,cj⟩;have bb:Fr w I:=ah.below V cj V.size (fun i e=>by have e:i=B:=e;omega);have fB:B<I.heap.size:=(by obtain⟨⟨v,h1,_⟩,_⟩:=ba;exact(aM.1 h1).1);go_wp2_with fail;have bc:Fr I (I.alloc (.cells #[.int .i64 0,.bool p,.int .i64 0,.int .i64 0,.int .i64 0,.int .i64 0,.int .i64 0,.int .u8 (x:Int)] 74)):=(Fr.refl I).alloc _;have ck:=a9 I (.cells #[.int .i64 0,.bool p,.int .i64 0,.int .i64 0,.int .i64 0,.int .i64 0,.int .i64 0,.int .u8 (x:Int)] 74) I.heap.size rfl;generalize I.alloc (.cells #[.int .i64 0,.bool p,.int .i64 0,.int .i64 0,.int .i64 0,.int .i64 0,.int .i64 0,.int .u8 (x:Int)] 74)=W3 at *;have ec:w.heap.size<=I.heap.size:=bb.size;generalize I.heap.size=g at *;have X:=bb.trans bc;have cl:=ba.fr bc;have cm:=ad (a1.out B W3 cl X.size);clear ch b8 cf ba V bb cj bc av a1;refine(cm.out).mono ?_;rintro e W4 ⟨rfl,cp,bd⟩;have Y:Fr w W4:=ah.below X bd X.size (fun i e=>by have e:i=B:=e;omega);have cq:=bd.heap ck (by omega);have cs:=ad (a2.out B W4 cp Y.size);clear cm a2 cl X bd ck;go_wp2_with fail;refine(cs.out).mono ?_;rintro e W5 ⟨rfl,cu,bf⟩;have Z:Fr w W5:=ah.below Y bf Y.size (fun i e=>by have e:i=B:=e;omega);have cv:=bf.heap cq (by omega);have c0:=ad (a3.out B W5 cu Z.size);clear cs a3 cp Y bf cq;go_wp2_with fail;refine(c0.out).mono ?_;rintro e M ⟨rfl,c4,bk⟩;have bl:Fr w M:=ah.below Z bk Z.size (fun i e=>by have e:i=B:=e;omega);have J:=bk.heap cv (by omega);clear c0 cu Z bk cv;have d2:=af J 2 rfl;have d3:=af J 3 rfl;have d4:=af J 4 rfl;have z2:=al J 2;have z3:=al J 3;have z4:=al J 4;go_wp2_with fail;have c5:=a8 (a8 (a8 J 2 (.int .i64 (q:Int))) 3 (.int .i64 (z:Int))) 4 (.int .i64 (A:Int));have c6:(((M.setCell ⟨g,2,none⟩ (.int .i64 (q:Int))).setCell ⟨g,3,none⟩ (.int .i64 (z:Int))).setCell ⟨g,4,none⟩ (.int .i64 (A:Int))).heap[g]?=some (.cells #[.int .i64 0,.bool p,N q,N z,N A,.int .i64 0,.int .i64 0,.int .u8 (x:Int)] 74 (0,0)):=by simpa using c5
  have bm:ah (fun k=>k=g) M (((M.setCell ⟨g,2,none⟩ (.int .i64 (q:Int))).setCell ⟨g,3,none⟩ (.int .i64 (z:Int))).setCell ⟨g,4,none⟩ (.int .i64 (A:Int))):=
    ((ao M ⟨g,2,none⟩ _).trans (ao _ ⟨g,3,none⟩ _) (fun _ _ e=>e)).trans (ao _ ⟨g,4,none⟩ _) (fun _ _ e=>e)
  have R:B≠g:=(by omega);have c7:=c4.box J (by decide) R bm;have aa:Fr w (((M.setCell ⟨g,2,none⟩ (.int .i64 (q:Int))).setCell ⟨g,3,none⟩ (.int .i64 (z:Int))).setCell ⟨g,4,none⟩ (.int .i64 (A:Int))):=ah.below bl bm bl.size (fun i e=>by have e:i=g:=e;omega);clear c5 bm c4 bl J d2 d3 d4 z2 z3 z4;generalize ((M.setCell ⟨g,2,none⟩ (.int .i64 (q:Int))).setCell ⟨g,3,none⟩ (.int .i64 (z:Int))).setCell ⟨g,4,none⟩ (.int .i64 (A:Int))=W7 at *;have c8:=ad (a4.out B W7 c7 aa.size);refine(c8.out).mono ?_;rintro e W8 ⟨rfl,cA,bs⟩;have ab:Fr w W8:=ah.below aa bs aa.size (fun i e=>by have e:i=B:=e;omega);have cB:=bs.heap c6 (fun e=>R e.symm);have cE:=ad (a5.out B W8 cA ab.size);clear c8 a4 c7 aa bs c6;go_wp2_with fail;refine(cE.out).mono ?_;rintro e O ⟨rfl,cF,bu⟩;have bv:Fr w O:=ah.below ab bu ab.size (fun i e=>by have e:i=B:=e;omega);have Q:=bu.heap cB (fun e=>R e.symm);clear cE a5 cA ab bu cB;have d5:=af Q 5 rfl;have d0:=af Q 0 rfl;have z5:=al Q 5;have z0:=al Q 0;go_wp2_with fail;have cG:=a8 (a8 Q 5 (.int .i64 (F:Int))) 0 (.int .i64 (G:Int));have cL:((O.setCell ⟨g,5,none⟩ (.int .i64 (F:Int))).setCell ⟨g,0,none⟩ (.int .i64 (G:Int))).heap[g]?=some (.cells #[N G,.bool p,N q,N z,N A,N F,.int .i64 0,.int .u8 (x:Int)] 74 (0,0)):=by simpa using cG
  have bx:ah (fun k=>k=g) O ((O.setCell ⟨g,5,none⟩ (.int .i64 (F:Int))).setCell ⟨g,0,none⟩ (.int .i64 (G:Int))):=
    (ao O ⟨g,5,none⟩ _).trans (ao _ ⟨g,0,none⟩ _) (fun _ _ e=>e)
  have cN:=cF.box Q (by decide) R bx;have ac:Fr w ((O.setCell ⟨g,5,none⟩ (.int .i64 (F:Int))).setCell ⟨g,0,none⟩ (.int .i64 (G:Int))):=ah.below bv bx bv.size (fun i e=>by have e:i=g:=e;omega);clear cG bx cF bv Q d0 d5 z0 z5;generalize (O.setCell ⟨g,5,none⟩ (.int .i64 (F:Int))).setCell ⟨g,0,none⟩ (.int .i64 (G:Int))=Wa at *;have cR:=ad (a6.out B Wa cN ac.size);refine(cR.out).mono ?_;rintro e D ⟨rfl,e8,b0⟩;have cT:Fr w D:=ah.below ac b0 ac.size (fun i e=>by have e:i=B:=e;omega);have b5:=b0.heap cL (fun e=>R e.symm);clear cR a6 cN ac b0 cL e8;have e6:=af b5 6 rfl;have z6:=al b5 6;have da:=a8 b5 6 (.int .i64 (o:Int));have K:(D.setCell ⟨g,6,none⟩ (.int .i64 (o:Int))).heap[g]?=some (.cells #[N G,.bool p,N q,N z,N A,N F,N o,.int .u8 (x:Int)] 74 (0,0)):=(by simpa using da);have dc:Fr w (D.setCell ⟨g,6,none⟩ (.int .i64 (o:Int))):=ah.below cT (ao D ⟨g,6,none⟩ _) cT.size (fun i e=>by have e:i=g:=e;omega);clear da;have u0:(D.setCell ⟨g,6,none⟩ (.int .i64 (o:Int))).cell? ⟨g,0,none⟩=some (N G):=(by rw [aA K];rfl);have u1:(D.setCell ⟨g,6,none⟩ (.int .i64 (o:Int))).cell? ⟨g,1,none⟩=some (.bool p):=(by rw [aA K];rfl);have u2:(D.setCell ⟨g,6,none⟩ (.int .i64 (o:Int))).cell? ⟨g,2,none⟩=some (N q):=(by rw [aA K];rfl);have u3:(D.setCell ⟨g,6,none⟩ (.int .i64 (o:Int))).cell? ⟨g,3,none⟩=some (N z):=(by rw [aA K];rfl);have u4:(D.setCell ⟨g,6,none⟩ (.int .i64 (o:Int))).cell? ⟨g,4,none⟩=some (N A):=(by rw [aA K];rfl);have u5:(D.setCell ⟨g,6,none⟩ (.int .i64 (o:Int))).cell? ⟨g,5,none⟩=some (N F):=(by rw [aA K];rfl);have u7:(D.setCell ⟨g,6,none⟩ (.int .i64 (o:Int))).cell? ⟨g,7,none⟩=some (.int .u8 (x:Int)):=(by rw [aA K];rfl);by_cases hx:1<x;· have i1:(1:Int)<x:=(by omega);have b7:=ad (show 1<hX h by rw [aC.out];exact hx);clear hx HO;go_wp2_with fail;go_ret2;exact⟨dc,.inl ⟨b7.out,rfl⟩⟩
  · have i1:¬(1:Int)<x:=(by omega);have b7:=ad (show hX h<=1 by rw [aC.out];omega);have eL:=ad K;clear hx K;go_wp2_with fail;refine(HO.out _).mono ?_;rintro e Wd ⟨rfl,di⟩;have fb:=di.heap eL.out;have fe:=dc.trans di;go_wp2_with fail;go_ret2;refine⟨fe,.inr ⟨b7.out,g,rfl,ec,?_⟩⟩;rw [d6.out,aC.out];exact fb
def C3:Op:=.load 22 (.tmp 80)
attribute [local go_sem] C3
attribute [local go_sem] vn
structure yY (w0:World) (H B base k m c c4:Nat) (ov:Value) (out:List UInt8) (bv0:Value) (bad:List Nat) (n:Nat) (vs:Value) (l:List UInt8) (M:Nat) (pre:List (Fin M)) (W:World) (pv gv bv:Value) (ps:List Hd):Prop where
 h0:W.heap[H]?=some (.cells #[.pointer (some ⟨B,0,none⟩)] 271 (0,0))
 h1:W.heap[H+1]?=some (.cells #[pv] 95 (0,0))
 h2:W.heap[H+1+1]?=some (.cells #[gv] 141 (0,0))
 h3:W.heap[H+1+1+1]?=some (.cells #[vs] 22 (0,0))
 h4:W.heap[H+1+1+1+1]?=some (.cells #[N c4] 3 (0,0))
 R:jw W B base k m c ov out bv (bad++jt (pre.map fun j=>bF (cr l c 0 j.val)) n) (n+pre.length)
 oP:Ow W (H+1+1+1+1+1) aQ pv ps
 oR:de W (H+1+1+1+1+1) eB ps (pre.map fun j=>aS (cr l c 0 j.val))
 oG:Ow W (H+1+1+1+1+1) eO gv (pre.map fun j=>bF (cr l c 0 j.val))
 ch:ah (fun q=>q=B\/bv0.ownBlock=some q) w0 W
 fb:∀ b,bv.ownBlock=some b->bv0.ownBlock=some b\/H+1+1+1+1+1<=b
def Ey(d:World)(H B base k m c e:Nat)(h:Value)(o:List UInt8)(q:Value)(z:List Nat)(n:Nat)(A:Value)(l:List UInt8)(M:Nat)(D:List (Fin M))(W:World):Prop:=
 ∃ F G I J,yY d H B base k m c e h o q z n A l M D W F G I J
theorem yY.own(I:World)(H B base k m c L:Nat)(O:Value)(Q:List UInt8)(R:Value)(U:List Nat)(n:Nat)(V:Value)(l:List UInt8)(M D:Nat)(hD:I.heap.size<=D):OwnFrom D (Ey I H B base k m c L O Q R U n V l M):=by
 rintro s W X aj ⟨Y,Z,bv,ps,h⟩ d F;have z:∀ {q:Nat} {o:Obj},W.heap[q]?=some o->o.isCells=true->X.heap[q]?=some o:=fun {q o} G ho=>by
  rw [d.block q (aM.1 G).1 (fun e => by
   obtain ⟨_, o', J, K⟩ := F q e.symm
   rw [G] at J; cases J; rw [ho] at K; cases K)]
  exact G
 have A:=fun r e=>(F r e).2
 exact ⟨Y, Z, bv, ps, z h.h0 rfl, z h.h1 rfl, z h.h2 rfl, z h.h3 rfl, z h.h4 rfl, ⟨z h.R.h rfl, pC h.R.o d A, pC h.R.b d A⟩, pC h.oP d A, ⟨h.oR.1, fun t a b => pC (h.oR.2 t a b) d A⟩, pC h.oG d A,
  h.ch.trans (lL d) (fun i hi e => by have := (F i e).1; omega), h.fb⟩
abbrev I4(B c o d:Nat)(e:Option Addr)(h H:Nat)(m:Value):Act:=
 { tmps:=#[.pointer (some ⟨B,0,none⟩),.slice e d h,.pointer (some ⟨H,0,none⟩),undef,.int .i64 0,.pointer (some ⟨H+1,0,none⟩),.pointer (some ⟨H+1+1,0,none⟩),m,undef,undef,undef,undef,undef,undef,.slice e d h,.pointer (some ⟨B,0,none⟩),.pointer (some ⟨B,0,none⟩),.pointer (some ⟨B,0,none⟩),.pointer (some ⟨B,2,none⟩),N c,N o,.func (.func 109) #[] #[.pointer (some ⟨H+1+1+1,0,none⟩),.pointer (some ⟨H+1+1+1+1,0,none⟩)],m,undef,undef,undef,undef,undef,undef,undef,undef,undef,undef,undef,undef,undef,undef,undef,undef,undef,undef,undef,undef,undef,undef,undef,undef,undef,undef,undef,undef,undef,undef,undef,undef,undef,undef,undef,undef,undef,undef,undef,undef,undef,undef,undef,undef,undef,undef,undef,undef,undef,undef,undef,undef,undef,undef,undef,undef,undef,undef,undef,undef,undef,undef,undef,undef,undef,undef,undef,undef,undef,undef],defers:=[] }
theorem jw.put{w:World}{B base k m c n D:Nat}{z A:Value}{F:List UInt8}{G:List Nat}{o I:Obj}(h:jw w B base k m c z F A G n)(d:w.heap[D]?=some o)(J:o.isCells=false):jw (w.putObj D I) B base k m c z F A G n:=by
 have q:=grownBy_putObj' w D I;have K:∀ r,some D=some r->∃ o:Obj,w.heap[r]?=some o/\o.isCells=false:=fun r e=>by cases e;exact⟨_,d,J⟩
 refine⟨?_,pC h.o q K,pC h.b q K⟩;rw [q.block B (aM.1 h.h).1 (fun e=>by cases e;rw [h.h]at d;cases d;cases J)];exact h.h
theorem Pv{G:Nat->Prop}{B:Nat}{w W:World}(h:ah G w W)(d:B<=w.heap.size)(e:∀ i,G i->B<=i):Below B w W:=ah.below (Below.refl B w) h d e
theorem Ir (B base k m c n : Nat) (ov bv v : Value) (L l : List UInt8) (a2 : List Nat) (w : World) (hR : jw w B base k m c ov L bv a2 n) (hs : ∀ W, Below base w W → ai W eB v l) (hL : l.length = (k + m) * (c + 4)) (hl : l.length ≤ 6000) (ra : c ≤ 4096) (hk : 1 ≤ k) (ij : k + m ≤ 255) (rb : 1 ≤ c) (hn : n ≤ 50000) (re : a2.length ≤ 50000) (rh : L.length ≤ 500000) (hb : base ≤ w.heap.size) (ri : base ≤ B) (ht : ∀ W, Below base w W → bK W) :
    Calls Tryz.prog 176 #[.pointer (some ⟨B,0,none⟩),v] w fun e Z=>e=.returned (.int .i64 (eT k m c l 0).1)/\((eT k m c l 0).1=0->∃ my bk,jw Z B base k m c my (L++(eT k m c l 0).2.flatten) bk (a2++mZ l c 0 (k+m) n) (n+(k+m)))/\ah (fun q=>q=B\/ov.ownBlock=some q\/bv.ownBlock=some q) w Z:=by
  obtain⟨a0,bc,rfl,rj,rl,m5⟩:=(hs w (Below.refl _ _)).shape
  have HS:=ad hs
  have m6:=ad ht
  have rv:c+4<=6000:=by
    have:1*(c+4)<=(k+m)*(c+4):=dm _ (by omega)
    omega
  obtain⟨d,d9⟩:∃ d,d=c+4:=⟨_,rfl⟩
  have r0:1<=d:=by omega
  have r1:d<=6000:=by omega
  have m9:=ad (fun(i:Nat)=>show(l.drop (i*d)).take d=cr l c 0 i from by unfold cr;rw [d9,iX])
  have r2:IntKind.i64.wrap ((c:Int)+4)=(d:Int):=by rw [aw _ (by omega)];omega
  have mK:=ad (fun W=>Ps a0 l.length bc d (by omega) W)
  have nd:B<w.heap.size:=(aM.1 hR.h).1
  have fQ:∀ q,bv.ownBlock=some q->base<=q/\q<w.heap.size:=hR.b.lt
  have i4:dZ l.length d=k+m:=by rw [hL,<- d9];exact Pp (k+m) d (by omega)
  have e1:∃ A1,A1=w.alloc (.cells #[.pointer (some ⟨B,0,none⟩)] 271):=⟨_,rfl⟩
  have fS:Fr w (((w.alloc (.cells #[.pointer (some ⟨B,0,none⟩)] 271)).alloc (.cells #[.slice none 0 0] 95)).alloc (.cells #[.slice none 0 0] 141)):=(((Fr.refl w).alloc _).alloc _).alloc _
  have k0:(((w.alloc (.cells #[.pointer (some ⟨B,0,none⟩)] 271)).alloc (.cells #[.slice none 0 0] 95)).alloc (.cells #[.slice none 0 0] 141)).heap[w.heap.size]?=some (.cells #[.pointer (some ⟨B,0,none⟩)] 271 (0,0)):=by
    rw [ig _ _ _ (by rw [eg,eg];omega),ig _ _ _ (by rw [eg];omega)];exact a9 _ _ _ rfl
  have k1:(((w.alloc (.cells #[.pointer (some ⟨B,0,none⟩)] 271)).alloc (.cells #[.slice none 0 0] 95)).alloc (.cells #[.slice none 0 0] 141)).heap[w.heap.size+1]?=some (.cells #[.slice none 0 0] 95 (0,0)):=by
    rw [ig _ _ _ (by rw [eg,eg];omega)];exact a9 _ _ _ (eg _ _).symm
  have k2:(((w.alloc (.cells #[.pointer (some ⟨B,0,none⟩)] 271)).alloc (.cells #[.slice none 0 0] 95)).alloc (.cells #[.slice none 0 0] 141)).heap[w.heap.size+1+1]?=some (.cells #[.slice none 0 0] 141 (0,0)):=
    a9 _ _ _ (by rw [eg,eg])
  have gi:(((w.alloc (.cells #[.pointer (some ⟨B,0,none⟩)] 271)).alloc (.cells #[.slice none 0 0] 95)).alloc (.cells #[.slice none 0 0] 141)).heap.size=w.heap.size+1+1+1:=by rw [eg,eg,eg]
  have cB:(((w.alloc (.cells #[.pointer (some ⟨B,0,none⟩)] 271)).alloc (.cells #[.slice none 0 0] 95)).alloc (.cells #[.slice none 0 0] 141)).cell? ⟨w.heap.size,0,none⟩=some (.pointer (some ⟨B,0,none⟩)):=by rw [aA k0];rfl
  have c2:(((w.alloc (.cells #[.pointer (some ⟨B,0,none⟩)] 271)).alloc (.cells #[.slice none 0 0] 95)).alloc (.cells #[.slice none 0 0] 141)).cell? ⟨B,2,none⟩=some (N c):=by rw [aA (fS.heap hR.h)];rfl
  refine(callsIn_wide (n:=9)).1 ?_
  refine callsIn_of_wp_marks Tryz.func176 rfl trivial ?_ rfl
  simp only [Tryz.ntmps176,qg,cd,lh,Nat.reduceAdd,Nat.reduceSub,Array.replicate_succ,Array.replicate_zero,List.push_toArray,List.append_toArray,kI,qm]
  have r3:Fence.wide.fn 74:=trivial
  have HR:=ad hR
  have HL:=ad hL
  have ng:=ad d9
  have c3:=ad i4
  clear e1 hR hs ht m5 d9 hL i4
  gi_wp2_with (gi_at_call 74;refine(callsIn_wide.2 (mK.out _)).mono ?_;rintro e w3 ⟨rfl,rfl⟩)

  clear cB c2
  generalize ((w.alloc (.cells #[.pointer (some ⟨B,0,none⟩)] 271)).alloc (.cells #[.slice none 0 0] 95)).alloc (.cells #[.slice none 0 0] 141)=A3 at *
  have c5:Fr A3 (A3.alloc (.cells #[.slice a0 l.length bc] 22)):=(Fr.refl A3).alloc _
  have g0:(A3.alloc (.cells #[.slice a0 l.length bc] 22)).heap.size=w.heap.size+1+1+1+1:=by rw [eg,gi]
  have R:=a9 A3 (.cells #[.slice a0 l.length bc] 22) (w.heap.size+1+1+1) gi.symm
  generalize A3.alloc (.cells #[.slice a0 l.length bc] 22)=A4 at *
  have ck:Fr A4 (A4.alloc (.cells #[N d] 3)):=(Fr.refl A4).alloc _
  have dE:(A4.alloc (.cells #[N d] 3)).heap.size=w.heap.size+1+1+1+1+1:=by rw [eg,g0]
  have g4:=a9 A4 (.cells #[N d] 3) (w.heap.size+1+1+1+1) g0.symm
  generalize A4.alloc (.cells #[N d] 3)=A5 at *
  have J:Fr w A5:=fS.trans (c5.trans ck)
  have j0:=ck.heap (c5.heap k0)
  have j1:=ck.heap (c5.heap k1)
  have j2:=ck.heap (c5.heap k2)
  have j3:=ck.heap R
  clear k0 k1 k2 R fS c5 ck gi g0
  obtain⟨H,hH⟩:∃ H,H=w.heap.size:=⟨_,rfl⟩
  have HH:=ad hH
  rw [<- hH]at j0 j1 j2 j3 g4 dE nd fQ hb ⊢
  have r5:H<A5.heap.size:=by omega
  clear hH
  obtain⟨cb,nn,i8,gO⟩:=Pr (H+1+1+1) (H+1+1+1+1) (.slice a0 l.length bc) l d (by omega) (by omega) (by omega) A5 j3 g4 (HS.out _ (Below.mono (show Below w.heap.size w A5 from J) (by rw [<- HH.out];exact hb)))
  have HX:=ad (fun W (h:Below base w W) j hj=>Pq (show 1<=d by omega) (HS.out W h) i8 j hj)
  have h0:Ey w H B base k m c d ov L bv a2 n (.slice a0 l.length bc) l (dZ l.length d) [] A5:=
    ⟨_,_,bv,[],j0,j1,j2,j3,g4,by simpa [jt] using HR.out.fr J,Ow.nil,⟨rfl,fun t a=>by simp at a⟩,Ow.nil,J.chg _,fun b hb=>.inl hb⟩
  clear j0 j1 j2 j3 g4 i8
  refine wpIn_rangeFunc_ownF rfl (by omega) (gf:=109) (lb:=#[.pointer (some ⟨H+1+1+1,0,none⟩),.pointer (some ⟨H+1+1+1+1,0,none⟩)]) rfl trivial (enters_of Tryz.func109 (by kernel_rfl) rfl) (gO _ (by omega)) (fun h k=>jx.trans h k) (jx.put (by omega) (by omega)) (Below.refl _ A5) (fun _=>rfl)
    _ (fun _ _ _=>False) (yY.own w H B base k m c d ov L bv a2 n (.slice a0 l.length bc) l _ A5.heap.size J.size) (fun _ _ _ _ _ hs _ _=>hs) h0 (fun x=>I4 B c d l.length a0 bc H (oK cb nn l.length d x.val).v) ?assign ?body ?done ?stop
  case assign=>
    intro l x W K hK
    gi_wp2
    exact hK
  case body=>
    clear h0 gO
    rintro lr I x W ⟨pv,gv,bk,X,hI⟩ he
    have jv : Below base w W := Pv hI.ch (by rw [← HH.out]; exact hb) (fun i e => by
      rcases e with e | e
      · omega
      · exact (fQ i e).1)
    have hh:=HX.out W jv x.val x.isLt
    have nr:=m6.out W jv
    have ns:x.val<k+m:=by have:=x.isLt;have:=c3.out;omega
    have r6:I.length<k+m:=by have:=c3.out;omega
    have j4:=m9.out x.val
    have nv:=tZ x.val (k+m) c ns
    have hm:(cr l c 0 x.val).length=c+4:=DB l c 0 x.val (by have:=HL.out;omega)
    rw [j4]at hh
    have hq:H+1+1+1+1+1<=W.heap.size:=(aM.1 hI.h4).1
    have hv:(a2++jt (I.map fun j=>bF (cr l c 0 j.val)) n).length<=100000:=by
      have:=yI (I.map fun j=>bF (cr l c 0 j.val)) n
      rw [eN]at this
      rw [aD];omega
    have j5:=ad (Kq B base k m c (n+I.length) ov bk _ L _ _ W hI.R hh (by rw [hm];omega) (by rw [hm];have:=ng.out;omega) (by omega) hv (by omega) nr)
    have c0:W.cell? ⟨H,0,none⟩=some (.pointer (some ⟨B,0,none⟩)):=by rw [aA hI.h0];rfl
    obtain⟨pa,pc,n1⟩:=hI.oP.shape'
    obtain⟨ga,gc,j6⟩:=hI.oG.shape'
    subst n1
    rw [eN]at j6
    subst j6
    have F:=ad hI
    have n2:=ad (Qo (I.map fun j=>bF (cr l c 0 j.val)) (bF (cr l c 0 x.val)) n)
    have j7:(a2++jt (I.map (fun j=>bF (cr l c 0 j.val))++[bF (cr l c 0 x.val)]) n)=(if bF (cr l c 0 x.val)then a2++jt (I.map fun j=>bF (cr l c 0 j.val)) n else(a2++jt (I.map fun j=>bF (cr l c 0 j.val)) n)++[n+I.length]):=by
      rw [n2.out,eN]
      cases bF (cr l c 0 x.val)
      · simp
      · simp
    have n3:=ad j7
    have r7:(I.map fun j=>bF (cr l c 0 j.val)).length=I.length:=eN _
    have ka:(I++[x]).map (fun j=>bF (cr l c 0 j.val))=I.map (fun j=>bF (cr l c 0 j.val))++[bF (cr l c 0 x.val)]:=by rw [gp];rfl
    have kb:(I++[x]).map (fun j=>aS (cr l c 0 j.val))=I.map (fun j=>aS (cr l c 0 j.val))++[aS (cr l c 0 x.val)]:=by rw [gp];rfl
    have HM:=ad (And.intro ka kb)
    have bB:X.length=I.length:=by have:=hI.oR.1;rw [eN]at this;exact this
    have aC:=ad bB
    clear bB
    clear j7 ka kb hh hm nv j4 hI
    have r8:=hv
    clear hv
    generalize (a2++jt (I.map fun j=>bF (cr l c 0 j.val)) n)=bd at *
    have sc:Fence.wide.fn 208:=trivial
    generalize bF (cr l c 0 x.val)=ok at *
    generalize aS (cr l c 0 x.val)=cu at *
    gi_wp2_with (first
      | (gi_at_call 208; refine (CallsIn.inRound lr (callsIn_wide.2 j5.out)).mono ?_; rintro e w5 ⟨u, rfl, cm, n8, h3, aa, nF⟩; obtain ⟨ua, uc, hu⟩ := cm.shape'; subst hu
         have m1 := kS F.out.h1 (by omega) F.out.R.b (by decide) aa
         have d1 := af m1 0 rfl
         have U := mh F.out.oP F.out.R.h (by decide) F.out.R.b (by decide) aa
         have dE : H + 1 + 1 + 1 + 1 + 1 ≤ w5.heap.size := az hq aa.size)
      | (gi_at_builtin; refine zN aQ rfl (.tmp 29) (.tmp 31) 95 rfl Tryz.underlying95 (H + 1 + 1 + 1 + 1 + 1) rfl U [⟨ua, cu.length, uc⟩] _ _ _ rfl rfl rfl (by have := aC.out; simp; omega) dE ?_))
    intro v6 O ev
    obtain⟨ac,aj,c8⟩:=ev.own.shape'
    rw [aD,lg]at c8
    subst c8
    have m0:=kS F.out.h0 (by omega) F.out.R.b (by decide) aa
    have m2:=kS F.out.h2 (by omega) F.out.R.b (by decide) aa
    have m3:=kS F.out.h3 (by omega) F.out.R.b (by decide) aa
    have m4 := aa.heap F.out.h4 (by rintro (e | e); · omega
                                    · rcases F.out.fb _ e with h | h
                                      · have := (fQ _ h).2; omega
                                      · omega)
    have kq:=xj F.out.oR F.out.R.h (by decide) F.out.R.b (by decide) aa
    have kr:=mh F.out.oG F.out.R.h (by decide) F.out.R.b (by decide) aa
    obtain⟨b1,b2,V,b4⟩:=DU m1 U (by decide) ev
    have x1:=kS m0 (by omega) U (by decide) V
    have x2:=kS m2 (by omega) U (by decide) V
    have x3 := V.heap m3 (by rintro (e | e); · omega
                             · have := (U.lt _ e).1; omega)
    have x4:=kS m4 (by omega) U (by decide) V
    have x5:=kS h3.h (by omega) U (by decide) V
    have x6:=mh h3.o m1 (by decide) U (by decide) V
    have x7:=mh h3.b m1 (by decide) U (by decide) V
    have x8:=xj kq m1 (by decide) U (by decide) V
    have Q:=mh kr m1 (by decide) U (by decide) V
    have xu:=mh cm m1 (by decide) U (by decide) V
    have z1:=ev.chg'.heap m1 (U.ne_cells m1 (by decide))
    have z3:=af z1 0 rfl
    have z2:O.frozen? ⟨H+1,0,none⟩=false:=al z1 0
    have kv : KeepsOthers W (O.setCell ⟨H + 1, 0, none⟩ (.slice ac (X.length + 1) aj)) := (xV aa (fun k o ho e => by
      rcases e with e | e
      · have hx := F.out.R.h; rw [← e, ho] at hx; cases hx; rfl
      · exact xo F.out.R.b e ho)).trans (xV V (fun k o ho e => by
      rcases e with e | e
      · have hx := m1; rw [← e, ho] at hx; cases hx; rfl
      · exact xo U e ho))
    have kx:ah (fun q=>q=B\/bv.ownBlock=some q) w (O.setCell ⟨H+1,0,none⟩ (.slice ac (X.length+1) aj)):=
      (F.out.ch.trans aa (fun i hi e => by
        rcases e with e | e
        · exact .inl e
        · rcases F.out.fb _ e with h | h
          · exact .inr h
          · have := HH.out; omega)).trans V (fun i hi e => by
        have := HH.out
        rcases e with e | e
        · omega
        · have := (U.lt _ e).1; omega)
    have od:=ad kv
    have oe:=ad kx
    have sr:(O.setCell ⟨H+1,0,none⟩ (.slice ac (X.length+1) aj)).cell? ⟨H+1+1,0,none⟩=some (.slice ga I.length gc):=by rw [aA x2];rfl
    have ol:H+1+1+1+1+1<=(O.setCell ⟨H+1,0,none⟩ (.slice ac (X.length+1) aj)).heap.size:=az dE V.size
    have ss:I.length<=255:=by omega
    have or:Hid ((O.setCell ⟨H+1,0,none⟩ (.slice ac (X.length+1) aj)).heap.size=O.heap.size):=by show _=_;simp [World.setCell]
    clear kv kx ev m0 m1 m2 m3 m4 U kq kr V aa j5 cm
    have o1:=ad (And.intro b1 (And.intro b2 (And.intro b4 (And.intro x1 (And.intro x3 (And.intro x4 (And.intro x5 (And.intro x6 (And.intro x7 (And.intro x8 xu))))))))))
    have di:=ad (And.intro x2 Q)
    clear b1 b2 b4 x1 x2 x3 x4 x5 x6 x7 x8 Q xu
    gi_wp2_with (gi_at_builtin;refine zN eO rfl (.tmp 33) (.tmp 35) 141 rfl Tryz.underlying141 (H+1+1+1+1+1) rfl di.out.2 [ok] _ _ 1 rfl rfl (by rw [or.out];rfl) (by simp;omega) ol ?_)
    intro v8 w8 e4
    obtain⟨o2,o3,k4⟩:=e4.own.shape'
    rw [aD,lg,eN]at k4
    subst k4
    have z4:=e4.chg'.heap di.out.1 (di.out.2.ne_cells di.out.1 (by decide))
    have z5:=af z4 0 rfl
    have z6:w8.frozen? ⟨H+1+1,0,none⟩=false:=al z4 0
    obtain⟨b1,b2,b4,x1,x3,x4,x5,x6,x7,x8,xu⟩:=o1.out
    obtain⟨x2,Q⟩:=di.out
    obtain⟨g1,g2,R,g4⟩:=DU x2 Q (by decide) e4
    have y0:=kS x1 (by omega) Q (by decide) R
    have y1:=kS b1 (by omega) Q (by decide) R
    have y3:=kS x3 (by omega) Q (by decide) R
    have y4:=kS x4 (by omega) Q (by decide) R
    have y5:=kS x5 (by omega) Q (by decide) R
    have y6:=mh x6 x2 (by decide) Q (by decide) R
    have y7:=mh x7 x2 (by decide) Q (by decide) R
    have yP:=mh b2 x2 (by decide) Q (by decide) R
    have yR:=xj x8 x2 (by decide) Q (by decide) R
    have yu:=mh xu x2 (by decide) Q (by decide) R
    have k6 := od.out.trans (xV R (fun k o ho e => by
      rcases e with e | e
      · have hx := x2; rw [← e, ho] at hx; cases hx; rfl
      · exact xo Q e ho))
    have fn : ah (fun q => q = B ∨ bv.ownBlock = some q) w (w8.setCell ⟨H + 1 + 1, 0, none⟩ (.slice o2 (I.length + 1) o3)) := oe.out.trans R (fun i hi e => by
        have := HH.out
        rcases e with e | e
        · omega
        · have := (Q.lt _ e).1; omega)
    have HG:=ad (And.intro g1 (And.intro g2 (And.intro y0 (And.intro y1 (And.intro y3 (And.intro y4 (And.intro y5 (And.intro y6 (And.intro y7 (And.intro yP (And.intro yR yu)))))))))))
    have k7:=ad (And.intro k6 fn)
    clear g1 g2 R g4 y0 y1 y3 y4 y5 y6 y7 yP yR yu k6 fn b1 b2 b4 x1 x2 x3 x4 x5 x6 x7 x8 Q xu e4
    gi_wp2
    obtain⟨g1,g2,y0,y1,y3,y4,y5,y6,y7,yP,yR,yu⟩:=HG.out
    refine⟨k7.out.1,⟨y3.trans F.out.h3.symm,y4.trans F.out.h4.symm⟩,_,_,n8,X++[⟨ua,cu.length,uc⟩],y0,y1,g1,y3,y4,?_,yP,?_,?_,k7.out.2,?_⟩
    · rw [HM.out.1,n3.out,aD,lg,<- rx]
      exact⟨y5,y6,y7⟩
    · rw [HM.out.2]
      exact yR.snoc (yu.rebase hq)
    · rw [HM.out.1];exact g2
    · intro b hb
      rcases nF b hb with h | h
      · exact F.out.fb b h
      · exact .inr (az hq h)
  case done=>
    clear h0 gO HX
    rintro D ys W hD rfl ⟨pv,gv,bk,X,hI⟩ hK
    have e1:(List.finRange (dZ l.length d)).map (fun j:Fin (dZ l.length d)=>bF (cr l c 0 j.val))=bW l c 0 (k+m):=Db (dZ l.length d) (k+m) c3.out (fun i=>bF (cr l c 0 i))
    have e2:(List.finRange (dZ l.length d)).map (fun j:Fin (dZ l.length d)=>aS (cr l c 0 j.val))=ei l c 0 (k+m):=Db (dZ l.length d) (k+m) c3.out (fun i=>aS (cr l c 0 i))
    have e3:(List.finRange (dZ l.length d)).length=k+m:=by rw [List.length_finRange];exact c3.out
    obtain⟨h0,h1,h2,_,_,hR,oP,oR,oG,ch,fb⟩:=hI
    rw [e1,e3]at hR
    rw [e2]at oR
    rw [e1]at oG
    clear e1 e2 e3
    have bL:=oR.sees2 oP.see
    have bB:X.length=k+m:=by rw [bL.2.1,ui]
    have d2:(bW l c 0 (k+m)).length=k+m:=sn _ _ _ _
    have fr:=B6 l c 0 (k+m) (by have:=HL.out;omega)
    have lc:=ad (fun W' (z:Fr W W') h=>RY k m c pv gv X (ei l c 0 (k+m)) (bW l c 0 (k+m)) W' hk ij ((oR.fr z).sees2 (oP.fr z).see) (oG.fr z).see bB d2 fr h)
    have li:=ad (fun W' (z:Fr W W') h=>RX k m c pv gv X (ei l c 0 (k+m)) (bW l c 0 (k+m)) W' hk ij (by omega) ((oR.fr z).sees2 (oP.fr z).see) (oG.fr z).see bB d2 fr h)
    have ll:=ad (Iu k m c l 0)
    have ln:=ad (Is k m c l 0)
    have lo:=ad (Iw k m c l 0)
    have o6:=ad (sJ l c 0 (k+m) n)
    have h4:=xF k m c ((bq (bW l c 0 (k+m))).take k) (im ((bq (bW l c 0 (k+m))).take k) (ei l c 0 (k+m)))
    have h5:(ei l c 0 (k+m)).length=k+m:=ui _ _ _ _
    have ls:=ad (fun(bR:¬(bq (bW l c 0 (k+m))).length<k)=>xG k m c ((bq (bW l c 0 (k+m))).take k) (im ((bq (bW l c 0 (k+m))).take k) (ei l c 0 (k+m))) (by rw [sL,aG];omega) (sO (bW l c 0 (k+m)) (ei l c 0 (k+m)) c _ (fun r hr=>jV hr) fr (by rw [d2,h5])))
    have aC:=ad (And.intro bB (And.intro d2 (And.intro h4 h5)))
    clear bB d2 fr bL h4 h5
    generalize lE k m c ((bq (bW l c 0 (k+m))).take k) (im ((bq (bW l c 0 (k+m))).take k) (ei l c 0 (k+m)))=Y at *
    generalize bW l c 0 (k+m)=G at *
    generalize ei l c 0 (k+m)=PS at *
    obtain⟨M,fv⟩:∃ M,M=k+m:=⟨_,rfl⟩
    have bT:=ad fv
    obtain⟨pa,pc,d3⟩:=oP.shape'
    obtain⟨ga,gc,d4⟩:=oG.shape'
    rw [aC.out.1,<- fv]at d3
    rw [aC.out.2.1,<- fv]at d4
    subst d3 d4
    clear fv
    have s0:M<=255:=by have:=bT.out;omega
    have o8:k<=M:=by have:=bT.out;omega
    have h6:∀ w9:World,ah (fun q=>q=B\/ov.ownBlock=some q\/bv.ownBlock=some q) w w9->ah (fun q=>q=B\/ov.ownBlock=some q\/bv.ownBlock=some q) w (w9.putObj D (.deferred none)):=fun w9 h=>h.trans (lL (grownBy_putObj' w9 D _)) (fun i hi e=>by cases e;have:=J.size;omega)
    have h7:ah (fun q=>q=B\/ov.ownBlock=some q\/bv.ownBlock=some q) w W:=ch.mono (fun i _ e=>e.elim .inl (fun h=>.inr (.inr h)))
    have c0:=af h0 0 rfl
    have c1:=af h1 0 rfl
    have c2:=af h2 0 rfl
    have d0:W.cell? ⟨B,0,none⟩=some (N k):=by rw [aA hR.h];rfl
    have d1:W.cell? ⟨B,1,none⟩=some (N m):=by rw [aA hR.h];rfl
    gi_step
    gi_step
    refine wpIn_wide.2 ?_
    by_cases bR:(bq G).length<k
    · have f1:=ad (lc.out W.drew (Fr.refl W).drew bR)
      go_upto_region 8 with fail
      go_region_held3 (fun Z => Z.cell? ⟨H, 0, none⟩ = some (.pointer (some ⟨B, 0, none⟩)) ∧ Z.cell? ⟨H + 1, 0, none⟩ = some (.slice pa M pc) ∧ Z.cell? ⟨H + 1 + 1, 0, none⟩ = some (.slice ga M gc) ∧ Z.cell? ⟨B, 0, none⟩ = some (N k) ∧ Z.cell? ⟨B, 1, none⟩ = some (N m))
        (first | go_keep)
        ((go_at_call 209;refine f1.out.mono ?_;rintro e w1 ⟨rfl,ab⟩;have hA:=ab.cell c0;have hB:=ab.cell c1;have hE:=ab.cell c2;have hG:=ab.cell d0;have lu:=ab.cell d1))
      go_wp2_with fail
      have a7:=(Fr.refl W).drew.trans ab
      have d5:=h7.trans (a7.chg (fun _=>False)) (fun i _ e=>e.elim)
      have oL:=a7.heap hK
      refine⟨by simp,.inl ⟨_,_,rfl,run_takeDeferred oL,?_⟩⟩
      refine⟨_,results_tmp rfl _ _ _,?_,?_,h6 _ d5⟩
      · rw [ll.out bR];rfl
      · rw [ll.out bR];intro h;cases h
    · have oT:k<=(bq G).length:=by omega
      have f1:=ad (li.out W.drew (Fr.refl W).drew oT)
      go_upto_region 8 with fail
      go_region_held3 (fun Z => Z.cell? ⟨H, 0, none⟩ = some (.pointer (some ⟨B, 0, none⟩)) ∧ Z.cell? ⟨H + 1, 0, none⟩ = some (.slice pa M pc) ∧ Z.cell? ⟨H + 1 + 1, 0, none⟩ = some (.slice ga M gc) ∧ Z.cell? ⟨B, 0, none⟩ = some (N k) ∧ Z.cell? ⟨B, 1, none⟩ = some (N m))
        (first | go_keep)
        ((go_at_call 209;refine f1.out.mono ?_;rintro e w1 ⟨v1,rfl,xs,hJ,d6,ab⟩;obtain⟨na,nc,f2⟩:=hJ.shape';subst f2;have hA:=ab.cell c0;have hB:=ab.cell c1;have hE:=ab.cell c2;have hG:=ab.cell d0;have lu:=ab.cell d1))
      have f3:xs.length=M:=by rw [d6.1,aC.out.2.2.1];exact bT.out.symm
      rw [f3]
      have lv:G.length=M:=by rw [aC.out.2.1];exact bT.out.symm
      have he:X.length=M:=by rw [aC.out.1];exact bT.out.symm
      have lz:Y.length=M:=by rw [aC.out.2.2.1];exact bT.out.symm
      have l0:PS.length=M:=by rw [aC.out.2.2.2];exact bT.out.symm
      have ak:=ad (And.intro f3 (And.intro lv (And.intro he (And.intro lz l0))))
      have a7:=(Fr.refl W).drew.trans ab
      have sN:=hJ.see
      rw [f3]at sN
      have sG:=(oG.fr a7).see
      have sP:=(oP.fr a7).see
      have rP:=oR.fr a7
      have l1:=hR.fr a7
      have l2:=a7.heap hK
      have pg:=a7.heap h0
      have pi:∀ q,ov.ownBlock=some q->base<=q/\q<H:=fun q e=>by have h:=HR.out.o.lt q e;have:=HH.out;exact⟨h.1,by omega⟩
      have d5:=h7.trans (a7.chg (fun _=>False)) (fun i _ e=>e.elim)
      clear f3 lv he lz l0 hJ ab f1 li lc c0 c1 c2 d0 d1 h0 h1 h2 hR oP oR oG ch hK aC h7 a7
      go_wp2_with fail
      go_loopw [58] (fun iv wr=>∃ i:Nat,i<=M/\iv=N i/\(∀ j,j<i->G.getD j false=true->Y.getD j []=PS.getD j [])/\Fr w1 wr) (fun iv _=>M - (intOf iv).toNat)
      case atStart=>exact⟨0,an _,rfl,fun j h=>absurd h (rt j),Fr.refl _⟩
      case round=>
        obtain⟨i,hi,rfl,f4,z⟩:=hrel
        have t1:=z.cell hB
        have t2:=z.cell hE
        by_cases b6:i<M
        · obtain⟨nb,s3,s4,f2,e1⟩:=(sN.fr z).cell1 Hd.v rfl i (by rw [ak.out.1];exact b6)
          obtain⟨gb,pt,s5,d4,e2⟩:=(sG.fr z).cell1 (fun b=>.bool b) rfl i (by rw [ak.out.2.1];exact b6)
          obtain⟨pb,sA,sB,d3,e3⟩:=(sP.fr z).cell1 Hd.v rfl i (by rw [ak.out.2.2.1];exact b6)
          simp only [go]at f2 d4 d3
          obtain⟨rfl,pu,rfl⟩:=f2
          obtain⟨rfl,pw,rfl⟩:=d4
          obtain⟨rfl,px,rfl⟩:=d3
          clear pu pw px
          have l3:i<xs.length:=by rw [ak.out.1];exact b6
          have d8:i<G.length:=by rw [ak.out.2.1];exact b6
          have l4:i<X.length:=by rw [ak.out.2.2.1];exact b6
          have f5:i<Y.length:=by rw [ak.out.2.2.2.1];exact b6
          have f7:i<PS.length:=by rw [ak.out.2.2.2.2];exact b6
          have HE:=ad (zf xs[i].v X[i].v (Y[i]'f5) (PS[i]'f7) wr ((d6.2 i l3 f5).see.fr z) ((rP.2 i l4 f7).see.fr z))
          have hW:=ad (cZ G i false d8)
          have hY:=ad (cZ Y i [] f5)
          have hZ:=ad (cZ PS i [] f7)
          have p0:=ad d8
          have i1:(i:Int)<M:=by omega
          have i2:(0:Int)<=i:=by omega
          obtain⟨xh,l5⟩:∃ x,x=xs[i]:=⟨_,rfl⟩
          obtain⟨ph,l6⟩:∃ x,x=X[i]:=⟨_,rfl⟩
          obtain⟨gg,ma⟩:∃ x:Bool,x=G[i]'d8:=⟨_,rfl⟩
          obtain⟨nx,mb⟩:∃ x,x=Y[i]:=⟨_,rfl⟩
          obtain⟨sx,mc⟩:∃ x,x=PS[i]:=⟨_,rfl⟩
          rw [<- l5]at e1 HE
          rw [<- l6]at e3 HE
          have p6:wr.cell? ⟨gb,pt+i,none⟩=some (.bool (G[i]'d8)):=e2
          clear e2
          rw [<- ma]at p6 hW
          rw [<- mb]at HE hY
          rw [<- mc]at HE hZ
          clear l5 l6 ma mb mc l3 d8 l4 f5 f7 sN sG sP d6 rP
          obtain⟨xa,xn,xc⟩:=xh
          obtain⟨qa,qn,qc⟩:=ph
          simp only [Hd.v]at e1 e3 HE
          cases gg
          · go_wp2_with fail
            go_roundw
            case rel => exact ⟨i + 1, by omega, by go_num, (fun j hj hg => by
              rcases ti j i with h | h
              · exact f4 j h hg
              · obtain rfl : j = i := by omega
                rw [hW.out] at hg; cases hg), z⟩
            case measure=>simp [intOf];omega
          · by_cases f9:nx=sx
            · rw [bt f9]at HE
              go_wp2_with fail
              refine HE.out.mono ?_
              rintro e w5 ⟨rfl,J⟩
              have fB:=z.trans J
              go_wp2_with fail
              go_roundw
              case rel=>
                exact ⟨i + 1, by omega, by go_num, (fun j hj hg => by
                  rcases ti j i with h | h
                  · exact f4 j h hg
                  · obtain rfl : j = i := by omega
                    rw [hY.out, hZ.out, f9]), fB⟩
              case measure=>simp [intOf];omega
            · rw [aX f9]at HE
              have me:=lo.out bR (IX Y PS G i p0.out hW.out (by rw [hY.out,hZ.out];exact f9))
              have mg:=ad me
              clear me
              go_wp2_with fail
              refine HE.out.mono ?_
              rintro e w5 ⟨rfl,J⟩
              have fB:=z.trans J
              go_wp2_with fail
              have aa:=d5.trans (fB.chg (fun _=>False)) (fun i _ e=>e.elim)
              refine⟨by simp,.inl ⟨_,_,rfl,run_takeDeferred (fB.heap l2),?_⟩⟩
              refine⟨_,results_tmp rfl _ _ _,?_,?_,h6 _ aa⟩
              · rw [mg.out];rfl
              · rw [mg.out];intro h;cases h
        · obtain rfl:i=M:=by omega
          have h4:¬((i:Int)<i):=by omega
          have mi:=ad (ln.out bR (IW Y PS G (fun j hj hg=>f4 j (by have:=ak.out.2.1;omega) hg)))
          have mj:=yg c (Y.take k) (fun p hp=>ls.out bR p (jV hp))
          have mk:(Y.take k).length=k:=by rw [aG,ak.out.2.2.2.1];omega
          rw [mk]at mj
          have p8:k*c<=(k+m)*(c+4):=bJ (by omega) (by omega)
          have p9:(Y.take k).flatten.length<=6000:=by have:=HL.out;omega
          obtain⟨tb,mm⟩:=gD aQ 95 Tryz.underlying95 (show ai wr aQ (.slice na i nc) xs from sN.fr z) k (by rw [ak.out.1];exact o8)
          have bL : dl wr aQ eB (.slice na k nc) (xs.take k) (Y.take k) := ⟨mm, by rw [aG, aG, ak.out.1, ak.out.2.2.2.1], fun t ha hb => by
            simp only [oV]
            exact (d6.2 t (by rw [aG] at ha; omega) (by rw [aG] at hb; omega)).see.fr z⟩
          have mn:=ad (fun W' (h:Fr wr W')=>EX (.slice na k nc) (xs.take k) (Y.take k) W' ⟨bL.1.fr h,bL.2.1,fun t ha hb=>(bL.2.2 t ha hb).fr h⟩ (by omega))
          clear mj p8 mk mm bL sN sG sP d6 rP ls f4 ln lo
          obtain⟨FL,ic⟩:∃ FL,FL=(Y.take k).flatten:=⟨_,rfl⟩
          rw [<- ic]at mn p9
          have qe:=ad ic
          clear ic
          have fC:=l1.fr z
          obtain⟨oa,oc,rfl⟩:=fC.o.shape'
          have b0:=z.cell hA
          have V:=z.cell hG
          have b4:wr.cell? ⟨B,3,none⟩=some (.slice oa L.length oc):=by rw [aA fC.h];rfl
          have ct:=ad fC
          have qo:base<=wr.heap.size:=by have:=z.size;have:=d5.size;have:=HH.out;omega
          have qs:Hid (L.length+FL.length<=2147483648):=by show _<=_;omega
          clear hA hB hE hG lu t1 t2 fC l1
          go_upto_region 17 with fail
          have qt:=z.heap pg
          have mu:∀ q,(Value.slice oa L.length oc).ownBlock=some q->q<H:=fun q e=>(pi q e).2
          rw [show Op.load 22 (.tmp 80)=C3 from rfl]
          go_region_held3 (fun W => W.cell? ⟨H, 0, none⟩ = some (.pointer (some ⟨B, 0, none⟩)) ∧ W.cell? ⟨B, 0, none⟩ = some (N k))
            (first | exact qv | exact qw | exact q0 _ | go_keep)
            (((first
              | (go_at_call 59; refine (mn.out _ (Fr.refl wr).drew).mono ?_; rintro e w5 ⟨v5, rfl, cm, J⟩
                 have qv := And.intro (J.cell b0) (J.cell V)
                 have b5 := J.cell b4
                 obtain ⟨fa, fc, q1⟩ := cm.shape'
                 subst q1)
              | (refine rO eB rfl (.tmp 81) (.tmp 89) 22 rfl Tryz.underlying22 base rfl (ct.out.o.fr ((Fr.refl wr).drew.trans J)) _ FL rfl cm.see qs.out (az qo J.size) ?_
                 intro v' O b7
                 have m0 := b7.chg'.heap (J.heap (show wr.drew.heap[H]? = _ from qt)) (fun e => by have := mu H e; omega)
                 have mB := b7.chg'.heap (J.heap (show wr.drew.heap[B]? = _ from ct.out.h)) (ct.out.o.ne_cells ct.out.h (by decide))
                 obtain ⟨ac, aj, c8⟩ := b7.own.shape'
                 rw [aD] at c8
                 subst c8
                 have qw : O.cell? ⟨H, 0, none⟩ = some (.pointer (some ⟨B, 0, none⟩)) ∧ O.cell? ⟨B, 0, none⟩ = some (N k) := ⟨by rw [aA m0]; rfl, by rw [aA mB]; rfl⟩
                 have e6 := af mB 3 rfl
                 have f6 : O.frozen? ⟨B, 3, none⟩ = false := al mB 3
                 have q0 : ∀ u, (O.setCell ⟨B, 3, none⟩ u).cell? ⟨H, 0, none⟩ = some (.pointer (some ⟨B, 0, none⟩)) ∧ (O.setCell ⟨B, 3, none⟩ u).cell? ⟨B, 0, none⟩ = some (N k) := fun u => ⟨by rw [aA ((ao O ⟨B, 3, none⟩ u).heap m0 (fun e => by have e : H = B := e; omega))]; rfl, by rw [aA (a8 mB 3 u)]; rfl⟩))))
          all_goals go_wp2_with fail
          all_goals
            have fD:=ao O ⟨B,3,none⟩ (.slice ac (L.length+FL.length) aj)
            have q2:=a8 mB 3 (.slice ac (L.length+FL.length) aj)
            have fN:Fr wr w5:=(Fr.refl wr).drew.trans J
            have o5:=ct.out.o.fr fN
            have q4:=ct.out.b.fr fN
            have mv:=fX q4 o5 b7 (by decide)
            have q5:∀ q,(Value.slice ac (L.length+FL.length) aj).ownBlock=some q->¬q=B:=fun q e h=>b7.own.ne_cells mB (by decide) (by rw [e,h])
            have q6:∀ q,bk.ownBlock=some q->¬q=B:=fun q e h=>mv.ne_cells mB (by decide) (by rw [e,h])
            have q7:jw (O.setCell ⟨B,3,none⟩ (.slice ac (L.length+FL.length) aj)) B base k m c (.slice ac (L.length+FL.length) aj) (L++FL) bk (a2++jt G n) (n+(k+m)):=
              ⟨q2,b7.own.chg fD q5,mv.chg fD q6⟩
            have mx:(O.setCell ⟨B,3,none⟩ (.slice ac (L.length+FL.length) aj)).heap[D]?=some (.deferred (some [])):=fD.heap (b7.chg'.heap (fN.heap (z.heap l2)) (fun e=>by have:=mu D e;have:=J.size;omega)) (fun e=>by have e:D=B:=e;omega)
            have fn:=((((d5.trans (z.chg (fun _=>False)) (fun i _ e=>e.elim)).trans (fN.chg (fun _=>False)) (fun i _ e=>e.elim)).trans b7.chg' (fun i _ e=>Or.inr (Or.inl e))).trans fD (fun i _ e=>Or.inl e))
            refine⟨by simp,.inl ⟨_,_,rfl,run_takeDeferred mx,?_⟩⟩
            refine⟨_,results_tmp rfl _ _ _,?_,?_,h6 _ fn⟩
            · rw [mi.out];rfl
            · intro _
              refine⟨.slice ac (L.length+FL.length) aj,bk,?_⟩
              rw [mi.out,o6.out]
              show jw _ B base k m c _ (L++(Y.take k).flatten) bk _ _
              rw [<- qe.out]
              exact q7.put mx rfl
  case stop=>
    rintro D c I W hD _ h _
    exact h.elim
def AN:Value->Nat | .slice _ n _=>n | _=>0
theorem Rb(k m c n:Nat)(v:Value)(l:List UInt8)(w:World)(V:ai w eB v l)(hk:1<=k)(bT:k+m<=255)(ca:1<=c)(cb:c<=4096)(hn:n<=4294967296)(hl:l.length<=6000)(Y:bK w) :
  Calls Tryz.prog 135 #[N k,N m,N c,N n,v] w fun e Z=>∃ u F,e=.returned (.tuple #[u,F,.int .i64 ((fi k m c n l).1:Int)])/\Ow Z w.heap.size eB u (fi k m c n l).2.1/\Ow Z w.heap.size eJ F (fi k m c n l).2.2/\Fr w Z:=by
 have G:=ad (QV k m c n hk bT ca cb);obtain⟨q1,q2⟩:=AO k m c n;obtain⟨a0,gb,rfl,hW,gc,_⟩:=V.shape;unfold maxLen at gc;by_cases a2:8388608<n;· rw [q2 (by omega)]at G;have D:=ad (wT k m c n l a2);clear V Y q1 q2;go_enter Tryz.func135, Tryz.ntmps135;go_wp2_with fail;refine(G.out _).mono ?_;rintro e I ⟨rfl,J⟩;go_wp2_with fail;go_ret3;rw [D.out];exact⟨_,_,rfl,Ow.nil,Ow.nil,J⟩
 · obtain⟨q3,q4⟩:=q1 (by omega);by_cases ac:16777216<bg k c n*((k+m)*(c+4));· rw [q4 (by omega)]at G;have D:=ad (wR k m c n l a2 ac);clear V Y q3 q4 q2 q1 ac;go_enter Tryz.func135, Tryz.ntmps135;go_wp2_with fail;refine(G.out _).mono ?_;rintro e I ⟨rfl,J⟩;go_wp2_with fail;go_ret3;rw [D.out];exact⟨_,_,rfl,Ow.nil,Ow.nil,J⟩
   · rw [q3 (by omega)]at G;by_cases d8:l.length<bg k c n*((k+m)*(c+4));· have D:=ad (wP k m c n l a2 ac d8);clear V Y q3 q4 q2 q1;generalize bg k c n*((k+m)*(c+4))=size at *;have j1:(l.length:Int)<size:=(by omega);go_enter Tryz.func135, Tryz.ntmps135;go_wp2_with fail;refine(G.out _).mono ?_;rintro e I ⟨rfl,J⟩;go_wp2_with fail;go_ret3;rw [D.out];exact⟨_,_,rfl,Ow.nil,Ow.nil,J⟩
     · by_cases d9:bg k c n*((k+m)*(c+4))<l.length;· have D:=ad (wQ k m c n l a2 ac d9);clear V Y q3 q4 q2 q1;generalize bg k c n*((k+m)*(c+4))=size at *;have j1:¬(l.length:Int)<size:=(by omega);have j2:(size:Int)<l.length:=(by omega);go_enter Tryz.func135, Tryz.ntmps135;go_wp2_with fail;refine(G.out _).mono ?_;rintro e I ⟨rfl,J⟩;go_wp2_with fail;go_ret3;rw [D.out];exact⟨_,_,rfl,Ow.nil,Ow.nil,J⟩
       · have a5:l.length=bg k c n*((k+m)*(c+4)):=(by omega);have D:=ad (wS k m c n l a2 ac a5);have gg:1*5<=(k+m)*(c+4):=bJ (by omega) (by omega);have gi:1*1<=k*c:=bJ hk ca;have bk:n<=bg k c n*(k*c):=(by have:=fun h=>(wu k c n (by omega) (bg k c n)).2 h;omega);have bl:=ad (AM k m c bT cb);have cc:=ad (fun s=>Iv k m c l (s*((k+m)*(c+4))));have cf:=ad (fun s b=>Qn l c (s*((k+m)*(c+4))) (k+m) b);have ch:=ad (JH k m c l);have cj:=ad (JG k m c l);have ck:=ad (wU k m c l);have bm:=ad (AF k m c l);have dE:=ad (fun a b=>show(mZ l c a (k+m) b).length<=k+m from by rw [sJ];exact az (yI _ _) (fO (sn l c a (k+m))))
         have cl := ad (fun (B A : Nat) (ov F v' : Value) (d l' : List UInt8) (q : List Nat) (W : World) (h1 : jw W B w.heap.size k m c ov d F q A) (h2 : ∀ X, Below w.heap.size W X → ai X eB v' l') (h3 : l'.length = (k + m) * (c + 4)) (h4 : l'.length ≤ 6000) (h5 : A ≤ 50000) (h6 : q.length ≤ 50000) (h7 : d.length ≤ 500000) (h8 : w.heap.size ≤ W.heap.size) (h9 : w.heap.size ≤ B) (g7 : ∀ X, Below w.heap.size W X → bK X) =>
          Ir B w.heap.size k m c A ov F v' d l' q W h1 h2 h3 h4 cb hk bT ca h5 h6 h7 h8 h9 g7)
         obtain⟨o,a6⟩:∃ o,o=bg k c n:=⟨_,rfl⟩;obtain⟨L,ak⟩:∃ L,L=(k+m)*(c+4):=⟨_,rfl⟩;obtain⟨K,cm⟩:∃ K,K=k*c:=⟨_,rfl⟩;rw [<- a6,<- ak]at a5 G;rw [<- ak]at bl gg cc cf cl ch cj ck bm;rw [<- a6]at D bk;rw [<- cm]at gi bk ck bm;have dT:o*5<=o*L:=vq _ (by omega);have cn:K<=L:=(by rw [cm,ak];exact bJ (by omega) (by omega));have b0:o*K<=o*L:=vq _ cn;have ec:(k+m)<=L:=(by rw [ak];exact Nat.le_mul_of_pos_right _ (by omega));have b1:o*(k+m)<=o*L:=vq _ ec;have cq:=ad (And.intro a5 (And.intro bk (And.intro dT (And.intro b0 (And.intro cn b1)))));have HS:=ad V;have HT:=ad Y;rw [<- a5]at G;have hZ:¬(l.length:Int)<l.length:=(by omega);have ia:(n:Int)<=8388608:=(by omega);have ic:=ad ak;clear V Y q1 q2 q3 q4 ac d8 d9 a5 a6 ak cm dT cn b0 ec b1 bk;go_enter Tryz.func135, Tryz.ntmps135;go_wp2_with fail;refine(G.out _).mono ?_;rintro e I ⟨rfl,J⟩;go_wp2_with fail;have hA:Fr I (I.alloc (.cells #[N k,N m,N c,.slice none 0 0,.slice none 0 0,.int .i64 0] 273)):=(Fr.refl I).alloc _;have eq:=a9 I (.cells #[N k,N m,N c,.slice none 0 0,.slice none 0 0,.int .i64 0] 273) I.heap.size rfl;generalize I.alloc (.cells #[N k,N m,N c,.slice none 0 0,.slice none 0 0,.int .i64 0] 273)=w2 at *;have ha:=J.size;generalize I.heap.size=B at *;have er:=J.trans hA;have es:jw w2 B w.heap.size k m c (.slice none 0 0) [] (.slice none 0 0) [] 0:=⟨eq,Ow.nil,Ow.nil⟩;clear hA eq J G;go_loopw [4,16] (fun sv ev wr=>∃ (s A:Nat) (a':Option Addr) (c':Nat) (ov F:Value) (d:List UInt8) (q:List Nat),s<=o/\Hid (A=l.length - s*L)/\sv=.slice a' A c'/\ai w eB (.slice a' A c') (l.drop (s*L))/\jw wr B w.heap.size k m c ov d F q (s*(k+m))/\Hid (d.length=s*K)/\Hid (q.length<=s*(k+m))/\Hid (fj k m c l (o - s) s d q=fj k m c l o 0 [] [])/\Fr w wr) (fun sv _ _=>AN sv);case atStart=>exact⟨0,l.length,a0,gb,_,_,[],[],an _,by show _=_;rw [Nat.zero_mul,Nat.sub_zero],rfl,by rw [Nat.zero_mul];exact HS.out,by rw [Nat.zero_mul];exact es,by show _=_;simp,an _,rfl,er⟩
         case round=>
          clear es er;obtain⟨s,A,a',c',ov,F,d,q,e4,a7,rfl,b4,z,aC,ct,b5,O⟩:=hrel;by_cases e5:s<o
          · have e6:s*L+L<=l.length:=(by rw [cq.out.1];have:=dm L (show s+1<=o from e5);rw [bU,j8]at this;exact this);have ba:(l.drop (s*L)).length=A:=(by rw [aU];exact a7.out.symm);have b6:L<=A:=(by rw [a7.out];omega);obtain⟨e7,bb⟩:=gD eB 22 Tryz.underlying22 b4 L (by rw [ba];exact b6);obtain⟨fa,fc,b7,Q⟩:=iy eB 22 Tryz.underlying22 b4 L (by rw [ba];exact b6);rw [ba]at b7 Q;have cu:((l.drop (s*L)).take L).length=L:=(by rw [aG,ba];omega);have b1:s*(k+m)<=o*(k+m):=dm _ e4;have b0:s*K<=o*K:=dm _ e4;obtain⟨l1,l2,l3,l4,l5,l6⟩:=cq.out;have hb:q.length<=50000:=(by have:=ct.out;omega);have c5:d.length<=500000:=(by have:=aC.out;omega);have hS:=ad (fun W (h:Fr wr W)=>cl.out B (s*(k+m)) ov F (.slice a' L c') d ((l.drop (s*L)).take L) q W (z.fr h) (fun X h'=>bb.fr (Below.trans (show Below w.heap.size w W from O.trans h) h')) cu (by rw [cu];omega) (by omega) hb c5 (O.trans h).size ha (fun X h'=>HT.out.fr (Below.trans (show Below w.heap.size w W from O.trans h) h')));rw [cc.out s,cf.out s]at hS;obtain⟨f,eL⟩:∃ f,o - s=f+1:=⟨o - s - 1,by omega⟩;have fb:o - (s+1)=f:=(by omega);have c8:=b5.out;rw [eL]at c8;have c9:=ad (fun h=>ch.out f s d q h);have cA:=ad (fun h=>cj.out f s d q h);have cB:=ad (fun h=>bm.out (s*L) e6 h);have ij:=dE.out (s*L) (s*(k+m));have cE:(s+1)*L=s*L+L:=(by rw [bU,j8]);have fe:(s+1)*K=s*K+K:=(by rw [bU,j8]);have fh:(s+1)*(k+m)=s*(k+m)+(k+m):=(by rw [bU,j8]);have fk:(l.drop (s*L)).drop L=l.drop ((s+1)*L):=(by rw [mF,cE]);rw [fk]at Q;have hc:Hid (A - L=l.length - (s+1)*L):=(by show _=_;rw [cE,a7.out];omega);have fl:=ad c8;have b9:=ad (And.intro fe (And.intro fh fb));have d0:wr.cell? ⟨B,0,none⟩=some (N k):=(by rw [aA z.h];rfl);have d1:wr.cell? ⟨B,1,none⟩=some (N m):=(by rw [aA z.h];rfl);have d2:wr.cell? ⟨B,2,none⟩=some (N c):=(by rw [aA z.h];rfl);have i5:=z.h;have fm:=z.o.lt;have fn:=z.b.lt;have fr:(0:Int)<A:=(by omega);have i6:(L:Int)<=A:=(by omega);have hd:=ad b6;clear l1 l2 l3 l4 l5 l6 b1 b0 cu e6 ba b6 cE fe fh fk c8 b5 eL fb bb b4 z;generalize eT k m c l (s*L)=sr at *;generalize mZ l c (s*L) (k+m) (s*(k+m))=bs at *;go_wp2_with fail;refine(bl.out _).mono ?_;rintro e w3 ⟨rfl,cF⟩;have fv:=ad (hS.out w3 cF);go_wp2_with fail;refine fv.out.mono ?_;rintro e w4 ⟨rfl,f0,f1⟩;have f2 : Fr w w4 := ah.below (O.trans cF) f1 (O.trans cF).size (fun i e => by
             rcases e with e | e | e;· omega
             · exact (fm i e).1
             · exact (fn i e).1)
            have cG:=ad f0;clear f0 f1 hS fv;by_cases ap:sr.1=0
            · obtain⟨hh,hm,cL⟩:=cG.out ap;have e0:=cL.h;have x0:=af e0 0 rfl;have x1:=af e0 1 rfl;have x2:=af e0 2 rfl;have ho:=ad cL;have hp:=ad (cB.out ap);have hq:=ad (c9.out ap);rw [ap];clear e0 cL cB c9 cA cG;go_wp2_with fail;refine(bl.out _).mono ?_;rintro e w5 ⟨rfl,f3⟩;have hr:=f2.trans f3;have hu:=ho.out.fr f3;go_wp2_with fail;go_roundw
              case rel=>
               exact ⟨s + 1, A - L, fa, fc, hh, hm, d ++ sr.2.flatten, q ++ bs, e5, hc, rfl, Q, by rw [b9.out.2.1]; exact hu, by
                show _ = _
                rw [aD, aC.out, hp.out, b9.out.1], by
                show _ ≤ _;rw [aD, b9.out.2.1]
                have := ct.out; omega, by
                show _ = _
                rw [b9.out.2.2, ← hq.out]; exact fl.out, hr⟩
              case measure=>have:=hd.out;simp [AN];omega
            · have av:Hid (fi k m c n l=(sr.1,[],[])):=(by show _=_;rw [D.out];simp only [<- fl.out,cA.out ap,ap,if_false]);have hw:¬((sr.1:Nat):Int)=0:=(by omega);clear cB c9 cA cG fn fm D;obtain⟨x,M⟩:∃ x,x=sr.1:=⟨_,rfl⟩;rw [<- M]at av hw ⊢;clear M;go_wp2_with fail;go_ret3;rw [av.out];exact⟨_,_,rfl,Ow.nil,Ow.nil,f2⟩
          · have a6:o=s:=(by omega);subst a6;obtain⟨l1,l2,l3,l4,l5,l6⟩:=cq.out;have fr:A=0:=(by rw [a7.out];omega);subst fr;have cN:n<=d.length:=(by rw [aC.out];exact l2);have c5:d.length<=6000:=(by rw [aC.out];omega);have cR:=b5.out;rw [gu]at cR;have f4:fj k m c l o 0 [] []=(0,d,q):=cR.symm;have av:Hid (fi k m c n l=if(d.drop n).all (· == 0)then(0,d.take n,q)else(2,[],[])):=(by show _=_;rw [D.out,f4];rfl);obtain⟨oa,oc,rfl⟩:=z.o.shape';obtain⟨fa,fc,b7,Q⟩:=iy eB 22 Tryz.underlying22 z.o.see n cN;obtain⟨e7,bb⟩:=gD eB 22 Tryz.underlying22 z.o.see n cN;have d3:wr.cell? ⟨B,3,none⟩=some (.slice oa d.length oc):=(by rw [aA z.h];rfl);have d4:wr.cell? ⟨B,4,none⟩=some F:=(by rw [aA z.h];rfl);have bB:(d.drop n).length=d.length - n:=aU;have hy:=ad (fun W (h:Fr wr W)=>jT (.slice oa n oc) (d.take n) W (bb.fr h) (by rw [aG];omega));obtain⟨ol,di⟩:∃ ol,ol=d.length:=⟨_,rfl⟩;obtain⟨R,f6⟩:∃ R,R=ol - n:=⟨_,rfl⟩;rw [<- di]at b7 e7 d3 bB cN c5;rw [<- di]at Q;rw [<- f6]at b7 Q bB;have f7:=z.b;have j0:R<=6000:=(by omega);have j3:(n:Int)<=ol:=(by omega);have f9:=ad bB;have j4:=ad z;clear l1 l2 l3 l4 l5 l6 cR f4 b5 aC ct a7 D cl bm ck ch cj dE cf cc bl bb b4 z di f6 bB;generalize d.drop n=U at *;generalize d.take n=TK at *;go_wp2_with fail;go_loopw [76,18] (fun iv xv wx=>∃ i:Nat,i<=R/\iv=N i/\(∀ j,j<i->U.getD j 0=0)/\wx=wr) (fun iv _ _=>R - (intOf iv).toNat);case atStart=>exact⟨0,an _,rfl,fun j h=>absurd h (rt j),rfl⟩
            case round=>
             obtain⟨i,hi,rfl,hz,rfl⟩:=hrel;by_cases hE:i<R
             · have bf:i<U.length:=(by rw [f9.out];exact hE);obtain⟨b,fB,cp,hv,e1⟩:=Q.cell1 Fk.u8 rfl i bf;simp only [go]at hv;obtain⟨rfl,hG,rfl⟩:=hv;clear hG;have ds:=ad (cZ U i 0 bf);have e2:wr.cell? ⟨b,fB+i,none⟩=some (.int .u8 ((U[i].toNat:Nat):Int)):=e1;have fN:=ad bf;obtain⟨zx,fP⟩:∃ x:UInt8,x=U[i]'bf:=⟨_,rfl⟩;rw [<- fP]at e2 ds;have dv:=ad (show zx.toNat=0->zx=0 from fun h=>eA.1 (by rw [h];rfl));have d5:=ad (show zx=0->zx.toNat=0 from fun h=>by rw [h];rfl);clear e1 fP bf;have i1:(i:Int)<R:=(by omega);have i2:(0:Int)<=i:=(by omega);by_cases M:zx.toNat=0
               · rw [M]at e2;have e3:wr.cell? ⟨b,fB+i,none⟩=some (.int .u8 0):=e2;have hH:=ad (dv.out M);clear e2 M dv d5;go_wp2_with fail;go_roundw
                 case rel => exact ⟨i + 1, by omega, by go_num, (fun j hj => by
                  rcases ti j i with h | h;· exact hz j h
                  · obtain rfl : j = i := by omega
                    rw [ds.out, hH.out]), by trivial⟩
                 case measure=>simp [intOf];omega
               · have ke:¬((zx.toNat:Nat):Int)=0:=(by omega);have hI:Hid (fi k m c n l=(2,[],[])):=(by show _=_;rw [av.out,ae];intro h;have:=og.1 h (U[i]'fN.out) (bX _);have h2:=ds.out;rw [cZ U i 0 fN.out]at h2;rw [h2]at this;exact M (d5.out (by simpa using this)));clear M dv d5;go_wp2_with fail;go_ret3;rw [hI.out];exact⟨_,_,rfl,Ow.nil,Ow.nil,O⟩
             · obtain rfl:i=R:=(by omega);have hJ:Hid (fi k m c n l=(0,TK,q)):=(by show _=_;rw [av.out,ag];rw [og];intro x M;obtain⟨j,hj,rfl⟩:=List.mem_iff_getElem.1 M;have:=hz j (by rw [<- f9.out];exact hj);rw [cZ U j 0 hj]at this;rw [this];rfl);have kk:¬((i:Int)<i):=(by omega);have hK:=ad (hy.out wr.drew (Fr.refl wr).drew);clear hz av Q;go_upto_region 20 with fail
               go_region_held3 (fun Z => Z.cell? ⟨B, 3, none⟩ = some (.slice oa ol oc) ∧ Z.cell? ⟨B, 4, none⟩ = some F)
                (first | go_keep)
                ((go_at_call 61;refine hK.out.mono ?_;rintro e w6 ⟨v6,rfl,fQ,d7⟩;have hL:=d7.cell d3;have hM:=d7.cell d4))
               have fS:=(Fr.refl wr).drew.trans d7;have hO:=fQ.rebase (b:=w.heap.size) O.size;have hR:=f7.fr fS;have hT:=O.trans fS;clear fQ f7 hL hM d3 d4;go_wp2_with fail;go_ret3;rw [hJ.out];exact⟨_,_,rfl,hO,hR,hT⟩
theorem KH(o:dN)(h:gY o=true):nA o=0:=by unfold nA;rw [ag h]
theorem KI(o:dN)(h:gY o=false):nA o=9:=by unfold nA;rw [ae (by rw [h];simp)]
theorem JJ(b:List UInt8)(h:(fF b).1≠0):fF b=((fF b).1,[],[]):=by
 unfold fF at h ⊢;unfold fi at h ⊢;simp only at h ⊢;repeat' split
 all_goals first | rfl | (simp_all;done)
theorem Bi(k m c:Nat)(l:List UInt8):∀ (f s:Nat) (e:List UInt8) (d:List Nat),(fj k m c l f s e d).2.2.length<=d.length+f*(k+m)
 | 0,_,e,d=>by simp [fj]
 | f+1,s,e,d=>by
  unfold fj
  by_cases h:(eT k m c l (s*((k+m)*(c+4)))).1=0
  · simp only [h,mA]
    refine az (Bi k m c l f (s+1) _ _) ?_
    have o:(mZ l c (s*((k+m)*(c+4))) (k+m) (s*(k+m))).length<=k+m:=by
     rw [sJ];exact az (yI _ _) (fO (sn _ _ _ _))
    rw [aD,bU f 1,j8]
    omega
  · simp only [h,if_false];exact an _
theorem JF(k m c n:Nat)(l:List UInt8):(fi k m c n l).2.2.length<=l.length:=by
 by_cases d:8388608<n;· rw [wT k m c n l d];exact an _
 · by_cases e:16777216<bg k c n*((k+m)*(c+4));· rw [wR k m c n l d e];exact an _
   · by_cases h:l.length<bg k c n*((k+m)*(c+4));· rw [wP k m c n l d e h];exact an _
     · by_cases o:bg k c n*((k+m)*(c+4))<l.length;· rw [wQ k m c n l d e o];exact an _
       · have q:l.length=bg k c n*((k+m)*(c+4)):=(by omega);rw [wS k m c n l d e q];have z:=Bi k m c l (bg k c n) 0 [] [];have A:bg k c n*(k+m)<=bg k c n*((k+m)*(c+4)):=vq _ (Nat.le_mul_of_pos_right _ (by omega));simp only;split
         · split;· simp only [lh]at z;show(fj k m c l (bg k c n) 0 [] []).2.2.length<=_;omega
           · exact an _
         · exact an _
theorem LC (v : Value) (b : List UInt8) (w : World) (o : ai w eB v b) (hl : b.length ≤ 6000) (Q : bK w) :
    Calls Tryz.prog 92 #[v] w fun e F=>∃ hv u,e=.returned (.tuple #[hv,u,N (bw b).2.2,.int .i64 ((bw b).1:Int)])/\Ow F w.heap.size eB u (bw b).2.1/\Fr w F/\((bw b).1=0->∃ g xv,hv=.pointer (some ⟨g,0,none⟩)/\w.heap.size<=g/\F.heap[g]?=some (qT (lK (ax b)) (hP (ax b)) (jm (ax b)) (hD (ax b)) (hQ (ax b)) (hC (ax b)) (hN (ax b)) xv)):=by
  have HS:=ad o;obtain⟨a0,c5,rfl,dT,c6,_⟩:=o.shape;unfold maxLen at c6;by_cases m:b.length<42;· have q:=ad (DD _ b w o m);have R:=ad (DX b m);clear o Q m;go_enter Tryz.func92, Tryz.ntmps92;go_wp2_with fail;refine q.out.mono ?_;rintro e D ⟨rfl,z⟩;go_wp2_with fail;refine aL (v:=.tuple #[.pointer none,.slice none 0 0,.int .i64 0,.int .i64 1]) (by simp [results,Tryz.results92,go_sem, *]) rfl ?_;rw [R.out];exact⟨_,_,rfl,Ow.nil,z,fun h=>by cases h⟩
  · have q:=ad (DE _ b w o (by omega) Q);by_cases d:em b=true
    · rw [ag d]at q;have ap:=Nj b m;have aa:=ad (fun W u (h:ai W eB u (ax b))=>Ni u (ax b) W h ap);by_cases B:1<hX (ax b)
      · have R:=ad (Eb b m d B);have av:=ad B;have a1:=ad d;clear o Q m B ap d;go_enter Tryz.func92, Tryz.ntmps92;go_wp2_with fail;refine q.out.mono ?_;rintro e D ⟨u,rfl,G,_,z⟩;have I:=ad (aa.out D u (G a1.out));clear G q aa;go_wp2_with fail;refine I.out.mono ?_;rintro e J ⟨a2,L⟩;have he:e=.returned (.tuple #[.pointer none,.int .i64 2]):=by
          rcases L with h | h;· exact h.2
          · have:=av.out;omega
        subst he;clear L I;have M:=z.trans a2;go_wp2_with fail;refine aL (v:=.tuple #[.pointer none,.slice none 0 0,.int .i64 0,.int .i64 2]) (by simp [results,Tryz.results92,go_sem, *]) rfl ?_;rw [R.out];exact⟨_,_,rfl,Ow.nil,M,fun h=>by cases h⟩
      · cases O:gY (bY (ax b))
        · have R:=ad (DZ b m d B O);have av:=ad B;have a1:=ad d;have a7:=ad (KI _ O);clear o Q m B ap d O;go_enter Tryz.func92, Tryz.ntmps92;go_wp2_with fail;refine q.out.mono ?_;rintro e D ⟨u,rfl,G,_,z⟩;have I:=ad (aa.out D u (G a1.out));clear G q aa;go_wp2_with fail;refine I.out.mono ?_;rintro e J ⟨a2,L⟩;obtain⟨g,rfl,b3,U⟩:∃ g,e=.returned (.tuple #[.pointer (some ⟨g,0,none⟩),.int .i64 (nA (bY (ax b)))])/\D.heap.size<=g/\True:=by
            rcases L with h | h;· exact absurd h.1 av.out
            · obtain⟨_,g,V,X,_⟩:=h;exact⟨g,V,X,trivial⟩
          rw [a7.out];clear L I;have M:=z.trans a2;go_wp2_with fail;refine aL (v:=.tuple #[.pointer none,.slice none 0 0,.int .i64 0,.int .i64 9]) (by simp [results,Tryz.results92,go_sem, *]) rfl ?_;rw [R.out];exact⟨_,_,rfl,Ow.nil,M,fun h=>by cases h⟩
        · have c8:=BE _ O;have a7:=ad (KH _ O);have av:=ad B;have a1:=ad d;obtain⟨o1,o2,o3,o4,o5,o6,o7,o8⟩:=c8;have cF:=kF ((ax b).getD 7 0);have cG:=kF ((ax b).getD 8 0);have cL:hN (ax b)<4294967296:=(by have:=pN ((ax b).drop 13 |>.take 4);rw [aG,aU,ap]at this;exact this);have aC:=ad (fun W u (h:ai W eB u (mW b)) (X:Fr w W)=>Rb (hD (ax b)) (hQ (ax b)) (hC (ax b)) (hN (ax b)) u (mW b) W h o5 o6 o7 o8 (by omega) (by rw [xY];omega) (Q.fr X));have b8:Hid (fF b=fi (hD (ax b)) (hQ (ax b)) (hC (ax b)) (hN (ax b)) (mW b)):=rfl;rw [<- b8.out]at aC;obtain⟨Y,hK⟩:∃ K,K=b.length - 21:=⟨_,rfl⟩;obtain⟨fa,fc,bA,bb⟩:=wD eB 22 Tryz.underlying22 o 21 Y (by omega) (by omega);have bB:(b.take Y).drop 21=mW b:=(by unfold mW;rw [tw,hK];congr 1);rw [bB]at bb;have ec:∀ W,(Instr.slice 22 (.slice a0 b.length c5) (some (.int .i64 21)) (some (.int .i64 (Y:Int))) none).run Tryz.prog W=.ok (.slice fa (Y - 21) fc) W:=bA;have hw:IntKind.i64.wrap ((b.length:Int) - 21)=(Y:Int):=(by rw [aw _ (by omega)];omega);have bd:=ad (fun W (h:Fr w W)=>D0 _ b W (o.fr h) (by omega));have HEq:=ad (fun W v1 v2 (V:ai W eB v1 (b.take 21)) (X:ai W eB v2 (b.drop (b.length - 21)))=>zf v1 v2 _ _ W V X);have bf:=ad (fun h=>DY b m d B O h);have bk:=ad (fun h=>Ea b m d B O h);have eq:(21:Int)<=Y:=(by omega);have er:(Y:Int)<=b.length:=(by omega);have bm:=ad (JJ b);have cT:Hid ((fF b).2.2.length<=6000):=(by show _<=_;have V:=JF (hD (ax b)) (hQ (ax b)) (hC (ax b)) (hN (ax b)) (mW b);rw [xY]at V;rw [b8.out];omega);clear o Q m B ap d O o1 o2 o3 o4 o5 o6 o7 o8 cF cG cL bA bB hK;generalize lK (ax b)=fS at *;generalize hP (ax b)=fP at *;generalize jm (ax b)=fB at *;generalize hD (ax b)=fD at *;generalize hQ (ax b)=fQ at *;generalize hC (ax b)=fC at *;generalize hN (ax b)=fN at *;go_enter Tryz.func92, Tryz.ntmps92;go_wp2_with fail;refine q.out.mono ?_;rintro e D ⟨u,rfl,G,_,z⟩;have I:=ad (aa.out D u (G a1.out));clear G q aa;go_wp2_with fail;refine I.out.mono ?_;rintro e J ⟨a2,L⟩;obtain⟨g,rfl,b3,U⟩:∃ g,e=.returned (.tuple #[.pointer (some ⟨g,0,none⟩),.int .i64 (nA (bY (ax b)))])/\D.heap.size<=g/\J.heap[g]?=some (qT fS fP fB fD fQ fC fN (.int .u8 (hX (ax b):Int))):=by
            rcases L with h | h;· exact absurd h.1 av.out
            · obtain⟨_,g,V,X,h3⟩:=h;exact⟨g,V,X,h3⟩
          rw [a7.out];clear L I;have M:=z.trans a2;have x3:=af U 3 rfl;have x4:=af U 4 rfl;have x5:=af U 5 rfl;have x6:=af U 6 rfl;have cj:=ad (aC.out J.drew _ (bb.fr (M.trans (Fr.refl J).drew)) (M.trans (Fr.refl J).drew));have dr:=z.size;go_upto_region 7 with fail
          go_region_held3 (fun F => F.cell? ⟨g, 3, none⟩ = some (N fD) ∧ F.cell? ⟨g, 4, none⟩ = some (N fQ) ∧ F.cell? ⟨g, 5, none⟩ = some (N fC) ∧ F.cell? ⟨g, 6, none⟩ = some (N fN))
            (first | go_keep)
            ((go_at_call 135;refine cj.out.mono ?_;rintro e w3 ⟨u3,es,rfl,bs,bu,Z⟩;have ds:=Z.cell x3;have dv:=Z.cell x4;have d0:=Z.cell x5;have d1:=Z.cell x6))
          have a5:Fr w w3:=M.trans ((Fr.refl J).drew.trans Z);have bv:=Z.heap U;clear ds dv d0 d1 x3 x4 x5 x6 aC cj bb U Z;by_cases ab:(fF b).1=0
          · have ac:=ad (bk.out ab);obtain⟨ba,bc,rfl⟩:=bu.shape';have cm:=bs.rebase (b:=w.heap.size) (show w.heap.size<=J.drew.heap.size from M.size);have cn:=ad (bd.out w3 a5);have e1:=cT.out;rw [ab];clear bf bk bm bs bu ab bd;generalize (fF b).2.2.length=bl at *;generalize (fF b).2.1=RB at *;have e2:IntKind.i64.wrap ((bl:Int)+1)=(bl:Int)+1:=aw _ (by omega);go_wp2_with fail;refine cn.out.mono ?_;rintro e w4 ⟨v1,v2,rfl,cq,cs,a6⟩;have d2:=ad (HEq.out w4 v1 v2 cq cs);have d3:=a5.trans a6;have d4:=a6.heap bv;have d5:=cm.fr a6;clear cq cs cn HEq bv cm a5 a6;go_wp2_with fail;refine d2.out.mono ?_;rintro e w5 ⟨rfl,bx⟩;have ct:=d3.trans bx;have cu:=bx.heap d4;have cv:=d5.fr bx;have c0:w.heap.size<=g:=az dr b3;by_cases ak:b.take 21=b.drop (b.length - 21);· have b0:Hid (bw b=(0,RB,bl)):=(by show _=_;rw [ac.out,ag ak];rfl);rw [bt ak];clear ak ac;go_wp2_with fail;refine aL (v:=.tuple #[.pointer (some ⟨g,0,none⟩),u3,N bl,.int .i64 0]) (by simp [results,Tryz.results92,go_sem, *]) rfl ?_;rw [b0.out];exact⟨_,_,rfl,cv,ct,fun _=>⟨g,_,rfl,c0,cu⟩⟩
            · have b0:Hid (bw b=(0,RB,bl+1)):=(by show _=_;rw [ac.out,ae ak]);rw [aX ak];clear ak ac;go_wp2_with fail;refine aL (v:=.tuple #[.pointer (some ⟨g,0,none⟩),u3,.int .i64 ((bl:Int)+1),.int .i64 0]) (by simp [results,Tryz.results92,go_sem, *]) rfl ?_;rw [b0.out];exact⟨_,_,rfl,cv,ct,fun _=>⟨g,_,rfl,c0,cu⟩⟩
          · have ac:=ad (bf.out ab);have d6:¬(((fF b).1:Nat):Int)=0:=(by omega);have d7:=ad (bm.out ab);rw [d7.out]at bs;clear bf bk bm bu ab bd HEq bv;generalize (fF b).1=x at *;go_wp2_with fail;refine aL (v:=.tuple #[.pointer none,.slice none 0 0,.int .i64 0,.int .i64 (x:Int)]) (by simp [results,Tryz.results92,go_sem, *]) rfl ?_;rw [ac.out];exact⟨_,_,rfl,Ow.nil,a5,fun h=>absurd h (by simpa using d6)⟩
    · have b1:em b=false:=(by simpa using d);rw [ae d]at q;have R:=ad (DW b m b1);have d8:=ad b1;clear o Q m d b1;go_enter Tryz.func92, Tryz.ntmps92;go_wp2_with fail;refine q.out.mono ?_;rintro e D ⟨u,rfl,_,c1,z⟩;obtain rfl:=c1 d8.out;clear c1;go_wp2_with fail;refine aL (v:=.tuple #[.pointer none,.slice none 0 0,.int .i64 0,.int .i64 5]) (by simp [results,Tryz.results92,go_sem, *]) rfl ?_;rw [R.out];exact⟨_,_,rfl,Ow.nil,z,fun h=>by cases h⟩
theorem JE(k m c n:Nat)(l:List UInt8)(A:1<=k)(B:1<=c)(h:(fi k m c n l).1=0):¬8388608<n/\¬16777216<bg k c n*((k+m)*(c+4))/\l.length=bg k c n*((k+m)*(c+4))/\(fi k m c n l).2.1.length=n:=by
 by_cases d:8388608<n;· rw [wT k m c n l d]at h;cases h
 · by_cases e:16777216<bg k c n*((k+m)*(c+4));· rw [wR k m c n l d e]at h;cases h
   · by_cases D:l.length<bg k c n*((k+m)*(c+4));· rw [wP k m c n l d e D]at h;cases h
     · by_cases F:bg k c n*((k+m)*(c+4))<l.length;· rw [wQ k m c n l d e F]at h;cases h
       · have q:l.length=bg k c n*((k+m)*(c+4)):=(by omega);refine⟨d,e,q,?_⟩;rw [wS k m c n l d e q]at h ⊢;simp only at h ⊢;have I:1*1<=k*c:=bJ A B;have J:n<=bg k c n*(k*c):=(by have:=fun h=>(wu k c n (by omega) (bg k c n)).2 h;omega);by_cases o:(fj k m c l (bg k c n) 0 [] []).1=0
         · have G:=wU k m c l (bg k c n) 0 [] [] (by rw [iX];omega) o;rw [ag o]at h ⊢;by_cases z:((fj k m c l (bg k c n) 0 [] []).2.1.drop n).all (· == 0)=true;· rw [ag z];show((fj k m c l (bg k c n) 0 [] []).2.1.take n).length=n;rw [aG,G,lh];omega
           · rw [ae z]at h;cases h
         · rw [ae o]at h;exact absurd h o
theorem yE(b:List UInt8)(h:(bw b).1=0):gY (bY (ax b))=true/\(bw b).2.1.length=hN (ax b)/\hN (ax b)<=b.length/\bg (hD (ax b)) (hC (ax b)) (hN (ax b))*((hD (ax b)+hQ (ax b))*(hC (ax b)+4))<=16777216:=by
 by_cases d:b.length<42;· rw [DX b d]at h;cases h
 · cases e:em b;· rw [DW b d e]at h;cases h
   · by_cases m:1<hX (ax b);· rw [Eb b d e m]at h;cases h
     · cases o:gY (bY (ax b));· rw [DZ b d e m o]at h;cases h
       · by_cases q:(fF b).1=0;· rw [Ea b d e m o q];obtain⟨F,G,I,J,z,K,A,L⟩:=BE _ o;have B:=JE (hD (ax b)) (hQ (ax b)) (hC (ax b)) (hN (ax b)) (mW b) z A q;obtain⟨M,O,Q,D⟩:=B;have R:1*1<=hD (ax b)*hC (ax b):=bJ z A;have U:hN (ax b)<=bg (hD (ax b)) (hC (ax b)) (hN (ax b))*(hD (ax b)*hC (ax b)):=(by have:=fun h=>(wu (hD (ax b)) (hC (ax b)) (hN (ax b)) (by omega) (bg (hD (ax b)) (hC (ax b)) (hN (ax b)))).2 h;omega);have V:bg (hD (ax b)) (hC (ax b)) (hN (ax b))*(hD (ax b)*hC (ax b))<=bg (hD (ax b)) (hC (ax b)) (hN (ax b))*((hD (ax b)+hQ (ax b))*(hC (ax b)+4)):=vq _ (bJ (by omega) (by omega));have X:=xY b;exact⟨rfl,D,by omega,by omega⟩
         · rw [DY b d e m o q]at h;exact absurd h q
def Ta(b:List UInt8):Nat × List UInt8 × Nat:=
 if(bw b).1=0 then(0,Qx (lK (ax b)) (hP (ax b)) (jm (ax b)) (hD (ax b)) (hQ (ax b)) (hC (ax b)) (bw b).2.1,(bw b).2.2)else((bw b).1,[],0)
end Go.Proofs.YtfpijnhhdfoohaaGreatDoor
