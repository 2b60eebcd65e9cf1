/- Parts of the proof of ArchPacks: U5. -/
import Derived.Test.YtdamnfpigajmoaaGreatDoorM32
set_option linter.unusedVariables false
set_option linter.unusedSectionVars false
set_option linter.unusedSimpArgs false
set_option maxHeartbeats 8000000
set_option maxRecDepth 100000
namespace Go.Proofs.YtdamnfpigajmoaaGreatDoor
open Go.RowKit Go.Fk
theorem KD(d:Bool)(b5:Hid (∀ (B base:Nat) (s:Cs) (b:List UInt8) (W:World),a8 W 176 B base b s.at_ s.er->b.length<=1000000->base<=W.heap.size->Calls Tryz.prog 243 #[.agg #[.pointer (some ⟨B,0,none⟩)],.bool d] W fun e w'=>e=.returned (jA (fQ d b s))/\a8 w' 176 B base b (eq d b s).2.at_ (eq d b s).2.er/\ak (fun k=>k=B) W w'))
  (v:Value) (b:List UInt8) (w:World) (hs:af w eB v b) (hl:b.length<=1000000) :
  Calls Tryz.prog 199 #[.bool d,v] w fun e w'=>∃ u,e=.returned (.tuple #[u,.int .i64 ((ig d b).2:Int)])/\Ow w' w.heap.size eR u (ig d b).1/\Fr w w':=by
 have a6:=ad (vt v b w hs hl);have b8:=ad (fun B s W h hb=>b5.out B w.heap.size s b W h hl hb);have bB:=ad (fun B n J W (h:a8 W 176 B w.heap.size b n J)=>Bk B w.heap.size n J b W h);have bR:=ad (fun B n J W (h:a8 W 176 B w.heap.size b n J)=>mG B w.heap.size n J b W h);have ca:=ad (Ej d b);have cb:=ad (Ei d b);have cc:=ad (Ek d b);have cf:=ad (En d b);have ch:=ad (Eo d b);have a7:Hid (ig d b=jB d b b.length ⟨0,0⟩ []):=rfl;generalize ig d b=R at *;obtain⟨a0,cG,rfl,_⟩:=hs.shape;clear hs;have cj:(Tryz.prog.info? 37).map (·.size)=some 4:=by kernel_rfl
 go_enter Tryz.func199, Tryz.ntmps199;go_wp2_with fail;refine(a6.out).mono ?_;rintro e y ⟨B,rfl,A,X,hB⟩;have da:=A.lt;have ba:(y.alloc (.cells #[.pointer (some ⟨B,0,none⟩)] 329)).heap[y.heap.size]? = some (.cells #[.pointer (some ⟨B,0,none⟩)] 329 (0,0)):=au _ _ _ rfl;have Y:Fr y (y.alloc (.cells #[.pointer (some ⟨B,0,none⟩)] 329)):=(Fr.refl y).alloc _;have kz:=A.fr Y;have bb:=X.trans Y;have dc:w.heap.size<=y.heap.size:=X.size;go_upto_region 4 with fail;generalize y.alloc (.cells #[.pointer (some ⟨B,0,none⟩)] 329)=W0 at *;generalize y.heap.size=g at *;clear A X Y a6;have cm:B≠g:=by omega
 go_loopw [7] (fun Z wr=>∃ (f:Nat) (s:Cs) (o:List am),s.er=0/\b.length<=f+s.at_/\o.length<=s.at_/\s.at_<=b.length/\Ow wr w.heap.size eR Z o/\a8 wr 176 B w.heap.size b s.at_ s.er/\wr.heap[g]? = some (.cells #[.pointer (some ⟨B,0,none⟩)] 329 (0,0))/\Hid (R=jB d b f s o)/\Fr w wr) (fun Z _=>b.length - (match Z with | .slice _ m _=>m | _=>0));case atStart=>exact⟨b.length,⟨0,0⟩,[],rfl,ag _,ag _,ap _,Ow.nil,kz,ba,a7.out,bb⟩
 case round=>
  clear ba kz bb a7;obtain⟨f,s,o,he,di,dj,co,Q,A,hG,HR,hf⟩:=hrel;have c0:=ae hG 0 rfl;have D:=ad (bB.out B _ _ wr A);obtain⟨oa,oc,rfl⟩:=Q.shape';by_cases bd:s.at_<b.length
  · obtain⟨F,rfl⟩:∃ F,f=F+1:=by
      cases f with
      | zero=>omega
      | succ F=>exact⟨F,rfl⟩
    have i1:(0:Int)<(b.length:Int) - s.at_:=(by omega);go_wp2_with fail;refine(D.out).mono ?_;rintro e w2 ⟨rfl,q⟩;have aj:=A.fr q;have bm:=q.heap hG;have K:=Q.fr q;have c2:=q.cell c0;have G:=hf.trans q;have bn:=ad (b8.out B s w2 aj G.size);have cp:((b.length - s.at_:Nat):Int)=(b.length:Int) - s.at_:=(by omega);have i2:(0:Int)<((b.length - s.at_:Nat):Int):=(by omega);generalize b.length - s.at_=m at *;clear Q A hG c0 hf q D i1 cp;go_wp2_with fail;refine(bn.out).mono ?_;rintro e z ⟨rfl,av,T⟩;have ds:=av.lt;have a1:=T.heap bm (fun e=>cm e.symm);have bt:=aj.cbox;have bu := K.chg T (fun i hi e => by
     obtain ⟨cs, h5⟩ := bt
     exact K.ne_cells h5 (by decide) (by rw [hi, show i = B from e]))
    have bv:Fr w z:=ak.below G T G.size (fun i e=>by rw [show i=B from e];exact hB);have c3:=ae a1 0 rfl;have I:Fr z (z.alloc (.cells #[.int .u64 ((fQ d b s).time.toNat:Int),Fk.u8 (fQ d b s).level,S (fQ d b s).source,S (fQ d b s).text] 37)):=(Fr.refl z).alloc _;have cx:(z.alloc (.cells #[.int .u64 ((fQ d b s).time.toNat:Int),Fk.u8 (fQ d b s).level,S (fQ d b s).source,S (fQ d b s).text] 37)).heap[z.heap.size]? = some (.cells #[.int .u64 ((fQ d b s).time.toNat:Int),Fk.u8 (fQ d b s).level,S (fQ d b s).source,S (fQ d b s).text] 37 (0,0)):=au _ _ _ rfl;have HU:=ad (fun h=>cf.out s h);have bz:=ad (fun h=>cb.out F s o bd h);have b0:=ad (fun h=>cc.out F s o bd h);have D:=ad (ch.out s co);clear aj bm K c2 G T bt bn;generalize fQ d b s=r at *;generalize (eq d b s).2=U at *;have b1:=av.fr I;have b2:=I.heap a1;have L:=bu.fr I;have c4:=I.cell c3;have V:=bv.trans I;have a3:=ad (bR.out B _ _ _ b1);have cy:o.length+[r].length<=2147483648:=(by rw [show [r].length=1 from rfl];omega);clear av a1 bu c3 bv I;go_wp2_with fail;refine(a3.out).mono ?_;rintro e w5 ⟨rfl,rfl⟩;generalize z.alloc (.cells #[.int .u64 (r.time.toNat:Int),Fk.u8 r.level,S r.source,S r.text] 37)=W4 at *;generalize z.heap.size=x3 at *;by_cases M:U.er=0
    · have h0:((U.er:Nat):Int)=0:=(by omega);have c1:=ad (bz.out M);have d3:=(HU.out M).2.1;have d4:(#[Value.int .u64 (r.time.toNat:Int),Fk.u8 r.level,S r.source,S r.text]:Array Value).size=4:=rfl;rw [h0];clear b0 a3 h0 HU;go_wp2_with (first | (refine iQ rfl 37 (.tmp 8) rfl x3 rfl 37 #[.int .u64 (r.time.toNat:Int),Fk.u8 r.level,S r.source,S r.text] (0,0) _ cx Tryz.underlying37 rfl cj ?_) | (at_builtin;refine aM eR rfl (.tmp 26) (.tmp 28) 24 rfl Tryz.underlying24 w.heap.size rfl L [r] _ _ _ rfl rfl rfl cy V.size ?_));intro v' w6 O;have c5:=b1.app L O (by decide) (by decide);have c6:=O.chg'.heap b2 (L.ne_cells b2 (by decide));have c7:=O.below L V (ag _) V.size;have a5:=O.own;obtain⟨va,vc,b3⟩:=a5.shape';rw [an,show [r].length=1 from rfl]at b3;subst b3;have c8:=ad a5;clear O a5 L;go_wp2_with fail;go_roundw;case rel=>exact⟨F,U,o++[r],M,by omega,by rw [an];simp;omega,D.out,c8.out,c5,c6,by show _=_;rw [HR.out,c1.out],c7⟩
      case measure=>simp;omega
    · have h0:¬((U.er:Nat):Int)=0:=(by omega);have c9:=ad (b0.out M);clear bz a3 HU M D;go_wp2_with fail;go_ret2;rw [HR.out,c9.out];exact⟨_,rfl,Ow.nil,V⟩
  · have i1:¬(0:Int)<(b.length:Int) - s.at_:=(by omega);have hm:b.length - s.at_=0:=(by omega);have cA:=ad (ca.out f s o (by omega) he);rw [hm]at D;clear hm;go_wp2_with fail;refine(D.out).mono ?_;rintro e w2 ⟨rfl,q⟩;have K:=Q.fr q;have G:=hf.trans q;go_wp2_with fail;go_ret2;rw [HR.out,cA.out];exact⟨_,rfl,K,G⟩
theorem KE(v:Value)(b:List UInt8)(w:World)(m:af w eB v b)(d:b.length<=1000000) :
  Calls Tryz.prog 199 #[.bool true,v] w fun e w'=>∃ u,e=.returned (.tuple #[u,.int .i64 ((ig true b).2:Int)])/\Ow w' w.heap.size eR u (ig true b).1/\Fr w w':=
 KD true (fun B base s b W h d o=>Eg B base s b W h d o) v b w m d
end Go.Proofs.YtdamnfpigajmoaaGreatDoor
