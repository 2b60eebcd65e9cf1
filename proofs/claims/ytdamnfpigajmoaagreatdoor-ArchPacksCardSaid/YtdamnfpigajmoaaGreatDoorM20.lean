/- Parts of the proof of ArchPacks: Wd2 Wd3 Wd4 We1 We2. -/
import Derived.Test.YtdamnfpigajmoaaGreatDoorM01
import Derived.Test.YtdamnfpigajmoaaGreatDoorM08
import Derived.Test.YtdamnfpigajmoaaGreatDoorM18
import Derived.Test.YtdamnfpigajmoaaGreatDoorM14
import Derived.Test.YtdamnfpigajmoaaGreatDoorM07
set_option linter.unusedVariables false
set_option linter.unusedSectionVars false
set_option linter.unusedSimpArgs false
set_option maxHeartbeats 8000000
set_option maxRecDepth 100000
namespace Go.Fk
abbrev lp:=@beq_eq_false_iff_ne
end Go.Fk
namespace Go.Proofs.YtdamnfpigajmoaaGreatDoor
open Go.RowKit Go.Fk
def fW(l:List UInt8):List UInt8:=64::l
theorem C2(d:Nat)(q y:List (List UInt8))(F:Nat->Prop)(x:List UInt8)(w:World)(h:is d q nY y F w)(T:q.length<=1)(U:y.length<=2000000000) :
  Calls Tryz.prog 161 #[S x,.pointer (some ⟨d,0,none⟩)] w fun e w'=>e=.returned (.tuple #[]) /\
   ∃ m,is d q nY (y++[x]) m w'/\ak F w w'/\(∀ b,m b->F b\/w.heap.size<=b):=by
 obtain⟨L,o,z,I⟩:=h;have V:=ae o 0 rfl;have X:d<w.heap.size:=(aR.1 o).1;have A:=ad o;clear o;go_enter Tryz.func161, Tryz.ntmps161;go_wp2_with (at_builtin;refine aM eS rfl (.tmp 3) (.tmp 5) 98 rfl Tryz.underlying98 (d+1) rfl z [nY x] _ _ _ rfl rfl rfl ?c1 ?c2 ?_);case c1=>simp;omega
 case c2=>omega
 intro v' J D;have M:=z.ne_cells A.out (by decide);have K:=ad (D.chg'.heap A.out M);have Y:J.cell? ⟨d,0,none⟩=some L:=by rw [aL K.out];rfl
 have Z:J.frozen? ⟨d,0,none⟩=false:=az K.out 0;obtain⟨a,n',ab,rfl⟩:=D.own.shape;go_wp2_with fail;go_end0;obtain⟨m,O,Q,R⟩:=is.put (g:=nY) (x:=x) A.out z (by rw [eE];exact D);refine⟨rfl,m,O,Q.mono (fun b _ G=>(I b).2 G),fun b G=>(R b G).imp (fun h=>(I b).2 h) id⟩
theorem C1(d:Nat):rN 161 #[.pointer (some ⟨d,0,none⟩)] (is d [] nY):=
 ⟨fun h e m=>h.loc e m,fun h=>h.bd,fun x h _ o=>C2 d [] _ _ x _ h (by simp) o⟩
theorem C0(d:Nat)(q y:List (List UInt8))(F:Nat->Prop)(x:List UInt8)(w:World)(h:is d q fW y F w)(U:q.length<=1000000)(V:y.length<=2000000000)(X:x.length<=24) :
  Calls Tryz.prog 162 #[S x,.pointer (some ⟨d,0,none⟩)] w fun e w'=>e=.returned (.tuple #[]) /\
   ∃ m,is d q fW (y++[x]) m w'/\ak F w w'/\(∀ b,m b->F b\/w.heap.size<=b):=by
 obtain⟨L,o,z,I⟩:=h;have c0:=ae o 0 rfl;have Y:d<w.heap.size:=(aR.1 o).1;have A:=ad o;have M:(⟨#[64]⟩:ByteArray)++(⟨x.toArray⟩:ByteArray)=⟨(64::x).toArray⟩:=by exact ByteArray.ext (by simp [ByteArray.data_append])
 clear o;have Z:¬(9223372036854775807:Int)<1+x.length:=by omega
 go_enter Tryz.func162, Tryz.ntmps162;go_wp2_with (at_builtin;refine aM eS rfl (.tmp 3) (.tmp 6) 98 rfl Tryz.underlying98 (d+1) rfl z [fW x] _ _ _ ?c0 rfl rfl ?c1 ?c2 ?_);case c0=>first | rfl | (simp [M,fW];rfl)
 case c1=>omega
 case c2=>omega
 intro v' J D;have O:=z.ne_cells A.out (by decide);have K:=ad (D.chg'.heap A.out O);have d1:J.cell? ⟨d,0,none⟩=some L:=by rw [aL K.out];rfl
 have e1:J.frozen? ⟨d,0,none⟩=false:=az K.out 0;obtain⟨a,n',aj,rfl⟩:=D.own.shape;go_wp2_with fail;go_end0;obtain⟨m,Q,R,T⟩:=is.put (g:=fW) (x:=x) A.out z (by rw [eE];exact D);refine⟨rfl,m,Q,R.mono (fun b _ G=>(I b).2 G),fun b G=>(T b G).imp (fun h=>(I b).2 h) id⟩
theorem Cz(d:Nat)(e:List (List UInt8))(m:e.length<=1000000):rN 162 #[.pointer (some ⟨d,0,none⟩)] (is d e fW):=
 ⟨fun h o q=>h.loc o q,fun h=>h.bd,fun x h y z=>C0 d e _ _ x _ h m z y⟩
theorem Cx(a b:List UInt8):cB ((dS a++(dS b).map fW).mergeSort fun x y=>decide (x<=y))=iy a b:=by
 refine Hs _ _ ?_ (List.mergeSort_perm _ _);have h:=List.pairwise_mergeSort (le:=fun(x y:List UInt8)=>decide (x<=y)) (fun a b c d e=>by simp only [fi]at *;exact List.le_trans d e) (fun a b=>by simp only [Bool.or_eq_true,fi];exact List.le_total a b) (dS a++(dS b).map fW);exact h.imp (fun h=>by simpa using h)
theorem Jd(r:am)(w:World)(h1:r.text.length<=1000000)(h2:r.source.length<=1000000) :
  Calls Tryz.prog 106 #[jA r] w fun e w'=>∃ v,e=.returned v/\Ow w' w.heap.size eS v (iy r.text r.source)/\Fr w w':=by
 have bd:∀ (I:Fn) (first J:Array Value) (w:World),(Instr.makeFunc I first J).run Tryz.prog w=.ok (.func I first J) w:=fun _ _ _ _=>rfl;have K:=ad (Cx r.text r.source);have bf:=mW r.text;have bk:=mW r.source;generalize iy r.text r.source=T at *;go_enter Tryz.func106, Tryz.ntmps106;go_wp2_with fail;have y:(w.alloc (.cells #[.int .u64 r.time.toNat,Fk.u8 r.level,S r.source,S r.text] 37)).heap.size=w.heap.size+1:=dp _ _;have z:Fr w ((w.alloc (.cells #[.int .u64 r.time.toNat,Fk.u8 r.level,S r.source,S r.text] 37)).alloc (.cells #[.slice none 0 0] 98)):=((Fr.refl w).alloc _).alloc _;have M:((w.alloc (.cells #[.int .u64 r.time.toNat,Fk.u8 r.level,S r.source,S r.text] 37)).alloc (.cells #[.slice none 0 0] 98)).heap[w.heap.size]? = some (.cells #[.int .u64 r.time.toNat,Fk.u8 r.level,S r.source,S r.text] 37 (0,0)):=by rw [gz _ _ _ (by rw [y];omega)];exact au _ _ _ rfl
 have O:((w.alloc (.cells #[.int .u64 r.time.toNat,Fk.u8 r.level,S r.source,S r.text] 37)).alloc (.cells #[.slice none 0 0] 98)).heap[w.heap.size+1]? = some (.cells #[.slice none 0 0] 98 (0,0)):=au _ _ _ y.symm;refine(xC (C1 (w.heap.size+1)) (zy Tryz.func161 (by kernel_rfl) rfl) r.text [] (fun b=>b=w.heap.size+1) _ ?h (by simp;omega)).mono ?_;case h=>exact⟨_,O,Ow.nil,fun b=>by simp [Value.ownBlock]⟩
 rintro e w1 ⟨rfl,F1,⟨Q,R,o,bn⟩,D,bt⟩;have U:=D.heap M (by omega);have F:Fr w w1:=ak.below z D z.size (fun i e=>by omega);have k2:=ae U 2 rfl;have m:([]:List (List UInt8))++(([]:List (List UInt8))++dS r.text).map nY=dS r.text:=List.map_id _;rw [m]at o;clear m M O z y D;go_wp2_with fail;refine(xC (Cz (w.heap.size+1) (dS r.text) (by omega)) (zy Tryz.func162 (by kernel_rfl) rfl) r.source [] (fun b=>b=w.heap.size+1\/Q.ownBlock=some b) _ ?h (by simp;omega)).mono ?_;case h=>exact⟨Q,R,by simpa using o,fun b=>Iff.rfl⟩
 rintro e V ⟨rfl,F2,⟨X,q,d,bv⟩,Y,bx⟩;have a2 : Fr w V := ak.below F Y F.size (fun i e => by
  rcases e with e | e;· omega
  · have := (o.lt i e).1; omega)
 have m:([]:List (List UInt8))++dS r.source=dS r.source:=rfl;rw [m]at d;obtain⟨L,G⟩:∃ L,L=dS r.text++(dS r.source).map fW:=⟨_,rfl⟩;have bz:L.length<=2000000:=by rw [G];simp;omega
 rw [<- G]at d K;have b0:=ae q 0 rfl;have hH:=ad q;have Z:=ad (Jm X L _ V d (by omega));have a4:=d.ne_cells q (by decide);have aa:=d.lt;clear m G q o R Y k2 U F d;go_wp2_with fail;refine Z.out.mono ?_;rintro e w3 ⟨rfl,ac,aj⟩;have a5:=(lK aj).heap hH.out a4;have b1:=ae a5 0 rfl;have a6:Fr w w3:=a2.own aj (fun k e=>by have:=(aa k e).1;omega);have av:=ad (Jn X _ _ w3 ac (by rw [List.length_mergeSort];omega));rw [K.out]at av;clear ac Z;go_wp2_with fail;refine av.out.mono ?_;rintro e w4 ⟨v4,rfl,a7,ba⟩;go_wp2_with fail;go_ret;exact⟨_,rfl,a7.rebase (by omega),a6.own ba (fun k e=>by have:=(aa k e).1;omega)⟩
def iA(s:List UInt8)(i:Nat):Bool:=decide (0<i) && (match s[i - 1]? with | some c=>cd c | none=>false)
theorem qO(s:List UInt8)(i:Nat)(h:i<s.length):iA s (i+1)=cd s[i]:=by
 unfold iA;simp [h]
theorem qz(c:UInt8):(((ko c).toNat:Int) == 0) = !cd c:=by
  have h:=Do c
  cases d:cd c with
  | true=>
    rw [lp.2];· rfl
    · intro e;have m:ko c=0:=gq.1 (by have z:(0:UInt8).toNat=0:=rfl;rw [z];omega);rw [h.1 m]at d;cases d
  | false=>rw [h.2 d];rfl
theorem Dn(c:UInt8)(h:cd c=true):ko c=sm c:=by unfold ko;rw [h];rfl
theorem B4(s:List UInt8)(i:Nat)(h:i<s.length)(d:cd s[i]=false)(b:Bool):cR b (s.drop i)=cR (iA s (i+1)) (s.drop (i+1)):=by
 rw [cM h,cR,d,qO s i h,d];rfl
theorem B6(s:List UInt8)(i:Nat)(h:i<s.length)(d:cd s[i]=true):cR true (s.drop i)=cR (iA s (i+1)) (s.drop (i+1)):=by
 rw [cM h,cR,d,qO s i h,d];rfl
theorem B5(s:List UInt8)(i:Nat)(h:i<s.length)(d:cd s[i]=true):cR false (s.drop i)=(eX (s.drop i)).take 24::cR (iA s (i+1)) (s.drop (i+1)):=by
 rw [cM h,cR,d,qO s i h,d];rfl
theorem BL(s:List UInt8)(k:Nat)(h:k<s.length)(d:cd s[k]=true):eX (s.drop k)=sm s[k]::eX (s.drop (k+1)):=by
 rw [cM h,eX,ai d]
theorem BM(s:List UInt8)(k:Nat)(h:k<s.length)(d:cd s[k]=false):eX (s.drop k)=[]:=by
 rw [cM h,eX,d];rfl
theorem nW{x y:Int}{b:Bool}(h:(x == y)=b):(x != y) = !b:=by rw [bne,h]
theorem AN (s : List UInt8) (w : World) (bB : s.length ≤ 2000000000) :
    Calls Tryz.prog 187 #[S s] w fun e w'=>∃ v,e=.returned v/\Ow w' w.heap.size eS v (dS s)/\Fr w w':=by
  have V:=ad (fun c W=>DG c W);have HW:Hid (dS s=[]++cR (iA s 0) (s.drop 0)):=(by show _=_;rw [s8];simp [iA]);generalize dS s=T at *;go_enter Tryz.func187, Tryz.ntmps187;go_wp2_with fail;go_loopw [3,4] (fun ov iv wr=>∃ (i:Nat) (d:List (List UInt8)),i<=s.length/\iv=N i/\d.length<=i/\Ow wr w.heap.size eS ov d/\Hid (T=d++cR (iA s i) (s.drop i))/\Fr w wr) (fun _ iv _=>s.length - (intOf iv).toNat);case atStart=>exact⟨0,[],ap _,rfl,ag _,Ow.nil,HW,Fr.refl w⟩
  case round=>
    clear HW;obtain⟨i,d,hi,rfl,bR,X,Y,hf⟩:=hrel;by_cases aj:i<s.length
    · have i1:(0:Int)<=i:=(by omega);have i2:(i:Int)<s.length:=(by omega);obtain⟨va,vc,rfl⟩:=X.shape';go_upto_region 5 with fail;generalize a5:(cd s[i] && !iA s i)=L;have M:=ad a5;clear a5;go_cut [29]from 13 to 29 (fun cv wx=>cv=.bool (!L)/\wx=wr)
      case first=>
        have o:=qz s[i];have z:=ad (V.out s[i]);cases A:cd s[i]with
        | false=>rw [A]at o;have G:Hid (L=false):=(by show _=_;rw [<- M.out,A];rfl);go_wp2_with fail;refine(z.out _).mono ?_;rintro e J ⟨rfl,rfl⟩;go_wp2_with fail;go_meet;exact⟨by rw [G.out];rfl,rfl⟩
        | true=>
          rw [A]at o;by_cases h0:i=0;· subst h0;have G:Hid (L=true):=(by show _=_;rw [<- M.out,A];rfl);go_wp2_with fail;refine(z.out _).mono ?_;rintro e J ⟨rfl,rfl⟩;go_wp2_with fail;go_meet;exact⟨by rw [G.out];rfl,rfl⟩
          · obtain⟨j,rfl⟩:∃ j,i=j+1:=⟨i - 1,by omega⟩;have hj:j<s.length:=(by omega);have Z:=qz s[j];have bu:=ad (V.out s[j]);have G:Hid (L = !cd s[j]):=(by show _=_;rw [<- M.out,A,qO s j hj];rfl);have i3:(0:Int)<((j+1:Nat):Int):=(by omega);have i4:IntKind.i64.wrap (((j+1:Nat):Int) - 1)=(j:Int):=(by rw [ar _ (by omega)];omega);have i5:(0:Int)<=(j:Int):=(by omega);have i6:(j:Int)<s.length:=(by omega);go_wp2_with fail;refine(z.out _).mono ?_;rintro e J ⟨rfl,rfl⟩;go_wp2_with fail;refine(bu.out _).mono ?_;rintro e J ⟨rfl,rfl⟩;cases hP:cd s[j]with
            | false=>rw [hP]at Z G;have aa:=nW Z;go_wp2_with fail;go_meet;exact⟨by rw [G.out];rfl,rfl⟩
            | true=>rw [hP]at Z G;have aa:=nW Z;go_wp2_with fail;go_meet;exact⟨by rw [G.out];rfl,rfl⟩
      case rest=>
        obtain⟨rfl,rfl⟩:=hcut
        cases L with
        | false=>
          have av:Hid (T=d++cR (iA s (i+1)) (s.drop (i+1))):=by
            show _=_;rw [Y.out];congr 1;cases A:cd s[i]with
            | false=>exact B4 s i aj A _
            | true=>have:=M.out;rw [A]at this;have hp:iA s i=true:=(by simpa using this);rw [hp];exact B6 s i aj A
          go_wp2_with fail;go_roundw;case rel=>exact⟨i+1,d,by omega,by go_num,by omega,X,av,hf⟩
          case measure=>simp [intOf];omega
        | true=>
          have a0:cd s[i]=true/\iA s i=false:=(by have:=M.out;simpa using this);have av:Hid (T=(d++[(eX (s.drop i)).take 24])++cR (iA s (i+1)) (s.drop (i+1))):=(by show _=_;rw [Y.out,a0.2,B5 s i aj a0.1];simp);clear Y a0;go_wp2_with fail;go_loopw [5,6] (fun wv kv wq=>∃ (k:Nat) (m:List UInt8),i<=k/\k<=s.length/\kv=N k/\m.length=k - i/\m.length<=24/\Ow wq wc.heap.size eB wv m/\Hid ((eX (s.drop i)).take 24=m++(eX (s.drop k)).take (24 - m.length))/\Fr wc wq) (fun _ kv _=>s.length - (intOf kv).toNat);case atStart=>exact⟨i,[],ag _,hi,rfl,by simp,by simp,Ow.nil,ad (by simp),Fr.refl wc⟩
          case round=>
            obtain⟨k,m,cn,hk,rfl,ba,cp,O,bb,Q⟩:=hrel;obtain⟨wa,b0,rfl⟩:=O.shape';have b1:=ad ba;clear ba;by_cases R:k<s.length/\(∃ h:k<s.length,cd s[k]=true)/\m.length<24
            · obtain⟨I,⟨_,D⟩,U⟩:=R;have o:=qz s[k];rw [D]at o;have z:=ad (V.out s[k]);have b2:Hid (ko s[k]=sm s[k]):=Dn _ D;rw [b2.out]at o z;have b3:Hid ((eX (s.drop i)).take 24=(m++[sm s[k]])++(eX (s.drop (k+1))).take (24 - (m++[sm s[k]]).length)):=(by show _=_;rw [bb.out,BL s k I D];obtain⟨q,hq⟩:∃ q,24 - m.length=q+1:=⟨24 - m.length - 1,by omega⟩;rw [hq,fj];simp;congr 1;omega);have k1:(0:Int)<=k:=(by omega);have k2:(k:Int)<s.length:=(by omega);have k3:(m.length:Int)<24:=(by omega);have aa:=nW o;generalize sm s[k]=c at *;go_wp2_with fail;refine(z.out _).mono ?_;rintro e J ⟨rfl,rfl⟩;go_wp2_with fail;refine(z.out _).mono ?_;rintro e J ⟨rfl,rfl⟩;go_wp2_with (at_builtin;refine aM eB rfl (.tmp 49) (.tmp 54) 29 rfl Tryz.underlying29 wc.heap.size rfl O [c] _ _ _ rfl rfl rfl ?c1 Q.size ?_);case c1=>simp;omega
              intro v' w4 y;go_wp2_with fail;go_roundw
              case rel=>
                repeat apply Exists.intro
                exact⟨⟨k+1,m++[c],by omega,by omega,by go_num,by rw [an,b1.out];simp;omega,by rw [an];simp;omega,y.own,b3,y.below O Q (ag _) Q.size⟩,rfl⟩
              case measure=>simp [intOf];omega
            · have b8:Hid ((eX (s.drop i)).take 24=m):=by
                show _=_;rw [bb.out];by_cases U:m.length<24
                · by_cases I:k<s.length
                  · have D:cd s[k]=false:=by
                      cases h:cd s[k]with
                      | false=>rfl
                      | true=>exact absurd ⟨I,⟨I,h⟩,U⟩ R
                    rw [BM s k I D];simp
                  · rw [pU (by omega)];simp [eX]
                · rw [show 24 - m.length=0 by omega];simp
              have F:Fr w wr:=hf.trans Q;have K:=X.fr Q;have HK:Hid (T=(d++[m])++cR (iA s (i+1)) (s.drop (i+1))):=(by show _=_;rw [av.out,b8.out]);have a3:=fun W (h:af W eB (.slice wa m.length b0) m)=>oH eB W 29 9 Tryz.underlying29 Tryz.underlying5 Tryz.underlying9 rfl rfl h;have cs:=a3 _ O.see;have ct:=a3 _ O.see.drew;clear a3;by_cases I:k<s.length
              · have o:=qz s[k];have k1:(0:Int)<=k:=(by omega);have k2:(k:Int)<s.length:=(by omega);have z:=ad (V.out s[k]);cases D:cd s[k]with
                | false=>
                  rw [D]at o;have aa:=nW o;go_wp2_with fail;refine(z.out _).mono ?_;rintro e J ⟨rfl,rfl⟩;go_wp2_with (at_builtin;refine aM eS rfl (.tmp 56) (.tmp 59) 98 rfl Tryz.underlying98 w.heap.size rfl K [m] _ _ _ rfl rfl rfl ?c1 F.size ?_);case c1=>first | omega | (simp;omega)
                  intro v' w4 y;go_wp2_with fail;go_roundw;case rel=>exact⟨i+1,d++[m],by omega,by go_num,by simp;omega,y.own,HK,y.below K F (ag _) F.size⟩
                  case measure=>simp [intOf];omega
                | true=>
                  rw [D]at o;have aa:=nW o;have U:¬m.length<24:=fun U=>R ⟨I,⟨I,D⟩,U⟩;have k3:¬(m.length:Int)<24:=(by omega);clear R;go_wp2_with fail;refine(z.out _).mono ?_;rintro e J ⟨rfl,rfl⟩;go_wp2_with (at_builtin;refine aM eS rfl (.tmp 56) (.tmp 59) 98 rfl Tryz.underlying98 w.heap.size rfl K [m] _ _ _ rfl rfl rfl ?c1 F.size ?_);case c1=>first | omega | (simp;omega)
                  intro v' w4 y;go_wp2_with fail;go_roundw;case rel=>exact⟨i+1,d++[m],by omega,by go_num,by simp;omega,y.own,HK,y.below K F (ag _) F.size⟩
                  case measure=>simp [intOf];omega
              · have k2:¬(k:Int)<s.length:=(by omega);clear R;go_wp2_with (at_builtin;refine aM eS rfl (.tmp 56) (.tmp 59) 98 rfl Tryz.underlying98 w.heap.size rfl K [m] _ _ _ rfl rfl rfl ?c1 F.size ?_);case c1=>first | omega | (simp;omega)
                intro v' w4 y;go_wp2_with fail;go_roundw;case rel=>exact⟨i+1,d++[m],by omega,by go_num,by simp;omega,y.own,HK,y.below K F (ag _) F.size⟩
                case measure=>simp [intOf];omega
    · obtain rfl:i=s.length:=(by omega);have cx:¬(s.length:Int)<s.length:=(by omega);have HE:Hid (T=d):=(by show _=_;rw [Y.out,fZ];simp [cR]);go_wp2_with fail;go_ret;exact⟨_,rfl,by rw [HE.out];exact X,hf⟩
theorem j8{w:World}{v:Value}{l:List (List UInt8)}(h:af w eS v l)(k:Nat)(e:k<l.length):∃ b d m,v=.slice (some ⟨b,d,none⟩) l.length m/\w.cell? ⟨b,d+k,none⟩=some (S l[k]):=h.cell1 S rfl k e
theorem yk:∀ (l:List (List UInt8)) (s:List UInt8) (k:Nat),k<=l.length->(∀ i (h:i<k) (d:i<l.length),l[i]<s)->(∀ h:k<l.length,¬l[k]<s) ->
  dK l s=if ∃ h:k<l.length,l[k]=s then l else l.take k++[s]++l.drop k
 | [],s,k,m,_,_=>by
  have:k=0:=by simpa using m
  subst this
  simp [dK]
 | t::l,s,0,_,_,d=>by
  have:=d (by simp)
  rw [dK,ah (by simpa using this)]
  simp
 | t::l,s,k+1,m,o,d=>by
  have q:=o 0 (by omega) (by simp)
  have y:=yk l s k (by simpa using m) (fun i A z=>by have:=o (i+1) (by omega) (by simpa using z);simpa using this) (fun h=>by have:=d (by simpa using h);simpa using this)
  rw [dK,ai (by simpa using q),y]
  by_cases e:∃ h:k<l.length,l[k]=s
  · rw [ai e,ai (by obtain⟨a,b⟩:=e;exact⟨by simpa using a,by simpa using b⟩)]
  · rw [ah e,ah (by rintro⟨a,b⟩;exact e ⟨by simpa using a,by simpa using b⟩)]
    simp
theorem AS(v:Value)(l:List (List UInt8))(s:List UInt8)(w:World)(U:af w eS v l)(hn:l.length<=100000000) :
  Calls Tryz.prog 126 #[v,S s] w fun e w'=>∃ v',e=.returned v'/\((v'=v/\dK l s=l)\/Ow w' w.heap.size eS v' (dK l s))/\Fr w w':=by
 have HS:=ad (fun k m=>j8 U k m);have Q:=ad U;have R:=ad (yk l s);generalize dK l s=T at *;obtain⟨a0,bu,rfl,bv,a1,bx⟩:=U.shape;unfold maxLen at a1;go_enter Tryz.func126, Tryz.ntmps126;go_wp2_with fail;go_loopw [5] (fun V wr=>∃ k:Nat,k<=l.length/\V=N k/\Hid (∀ i (h:i<k) (X:i<l.length),l[i]<s)/\w=wr) (fun V _=>l.length - (intOf V).toNat);case atStart=>exact⟨0,ap _,rfl,ad (fun i h=>by omega),rfl⟩
 case round=>
  obtain⟨k,m,rfl,D,rfl⟩:=hrel;by_cases aj:k<l.length
  · obtain⟨b,bz,b0,hv,c0⟩:=HS.out k aj;cases hv;have i1:(0:Int)<=k:=(by omega);have i2:(k:Int)<l.length:=(by omega);by_cases z:l[k]<s
    · have a4:Hid (∀ i (h:i<k+1) (X:i<l.length),l[i]<s):=fun i h X=>by
        by_cases e:i=k;· subst e;exact z
        · exact D.out i (by omega) X
      have a5:Op.bytesLess l[k] s=true:=(by rw [Go.Proofs.bytesLess_eq];exact bs z);generalize l[k]=x at *;go_wp2_with fail;go_roundw;case rel=>exact⟨k+1,by omega,by go_num,a4,by first | rfl | trivial⟩
      case measure=>simp [intOf];omega
    · have a5:Op.bytesLess l[k] s=false:=(by rw [Go.Proofs.bytesLess_eq];exact bi z);have o:=ad (R.out k m D.out (fun _=>z));clear R D;by_cases A:l[k]=s;· have a6:(l[k] == s)=true:=(by simp [A]);have F:Hid (T=l):=(by show _=_;rw [o.out,ai ⟨aj,A⟩]);clear A z o;generalize l[k]=x at *;go_wp2_with fail;go_ret;exact⟨_,rfl,.inl ⟨rfl,F.out⟩,Fr.refl _⟩
      · have a6:(l[k] == s)=false:=(by simp [A]);have F:Hid (T=l.take k++[s]++l.drop k):=(by show _=_;rw [o.out,ah (by rintro⟨_,h⟩;exact A h)]);clear A z o;generalize l[k]=x at *;obtain⟨a7,G⟩:=j9 eS 98 Tryz.underlying98 Q.out k m;obtain⟨fa,fc,bc,I⟩:=kp eS 98 Tryz.underlying98 Q.out k m;have Y:=ad G;have Z:=ad I;clear G I;have J:Ow w w.heap.size eS (.slice none 0 0) ([]:List (List UInt8)):=Ow.nil;go_wp2_with (at_builtin;refine aN eS rfl (.tmp 34) (.tmp 37) 98 rfl Tryz.underlying98 w.heap.size rfl J _ _ rfl Y.out ?c1 (ag _) ?_);case c1=>first | omega | (simp;omega)
        intro v1 w1 K;have q:Fr w w1:=K.below J (Fr.refl w) (ag _) (ag _);have y:=K.own;try rw [gI]at y
        have bf:(l.take k).length=k:=(by simp;omega);go_wp2_with (at_builtin;refine aM eS rfl (.tmp 39) (.tmp 41) 98 rfl Tryz.underlying98 w.heap.size rfl y [s] _ _ _ rfl rfl rfl ?c1 q.size ?_);case c1=>first | omega | (simp;omega)
        intro v2 w2 L;have d:Fr w w2:=L.below y q (ag _) q.size;have M:=L.own;have ac:=Z.out.fr d;go_wp2_with (at_builtin;refine aN eS rfl (.tmp 43) (.tmp 46) 98 rfl Tryz.underlying98 w.heap.size rfl M _ _ rfl ac ?c1 d.size ?_);case c1=>first | omega | (simp;omega)
        intro v3 w3 O;go_wp2_with fail;go_ret;exact⟨_,rfl,.inr (by rw [F.out];have:=O.own;simpa using this),O.below M d (ag _) d.size⟩
  · have b3:¬(k:Int)<l.length:=(by omega);have o:=ad (R.out k m D.out (fun h=>absurd h (by omega)));have F:Hid (T=l.take k++[s]++l.drop k):=(by show _=_;rw [o.out,ah (by rintro⟨h,_⟩;omega)]);clear R D o;have i1:(0:Int)<=k:=(by omega);obtain⟨a7,G⟩:=j9 eS 98 Tryz.underlying98 Q.out k m;obtain⟨fa,fc,bc,I⟩:=kp eS 98 Tryz.underlying98 Q.out k m;have Y:=ad G;have Z:=ad I;clear G I;have J:Ow w w.heap.size eS (.slice none 0 0) ([]:List (List UInt8)):=Ow.nil;have bf:(l.take k).length=k:=(by simp;omega);go_wp2_with (at_builtin;refine aN eS rfl (.tmp 34) (.tmp 37) 98 rfl Tryz.underlying98 w.heap.size rfl J _ _ rfl Y.out ?c1 (ag _) ?_);case c1=>first | omega | (simp;omega)
    intro v1 w1 K;have q:Fr w w1:=K.below J (Fr.refl w) (ag _) (ag _);have y:=K.own;try rw [gI]at y
    go_wp2_with (at_builtin;refine aM eS rfl (.tmp 39) (.tmp 41) 98 rfl Tryz.underlying98 w.heap.size rfl y [s] _ _ _ rfl rfl rfl ?c1 q.size ?_);case c1=>first | omega | (simp;omega)
    intro v2 w2 L;have d:Fr w w2:=L.below y q (ag _) q.size;have M:=L.own;have ac:=Z.out.fr d;go_wp2_with (at_builtin;refine aN eS rfl (.tmp 43) (.tmp 46) 98 rfl Tryz.underlying98 w.heap.size rfl M _ _ rfl ac ?c1 d.size ?_);case c1=>first | omega | (simp;omega)
    intro v3 w3 O;go_wp2_with fail;go_ret;exact⟨_,rfl,.inr (by rw [F.out];have:=O.own;simpa using this),O.below M d (ag _) d.size⟩
theorem Jv(r:am)(w:World)(h1:r.text.length<=1000000)(h2:r.source.length<=1000000) :
  Calls Tryz.prog 125 #[jA r] w fun e w'=>∃ v,e=.returned v/\Ow w' w.heap.size eS v (iy r.text r.source)/\Fr w w':=by
 have b8:=mW r.text;have bA:=mW r.source;have U:=ad (fun W=>AN r.text W (by omega));have V:=ad (fun W=>AN r.source W (by omega));have X:Hid (iy r.text r.source=bW (bW [] (dS r.text)) ((dS r.source).map fW)):=by show _=_;unfold iy bW;rw [mP];rfl
 have Y:=ad (fun v l s W hs hn=>AS v l s W hs hn);have a6:=ad (s9 r.source);generalize dS r.text=A at *;generalize dS r.source=B at *;generalize iy r.text r.source=T at *;go_enter Tryz.func125, Tryz.ntmps125;go_wp2_with fail;have a7:Fr w (w.alloc (.cells #[.int .u64 r.time.toNat,Fk.u8 r.level,S r.source,S r.text] 37)):=(Fr.refl w).alloc _;have Z:(w.alloc (.cells #[.int .u64 r.time.toNat,Fk.u8 r.level,S r.source,S r.text] 37)).heap[w.heap.size]? = some (.cells #[.int .u64 r.time.toNat,Fk.u8 r.level,S r.source,S r.text] 37 (0,0)):=au _ _ _ rfl;generalize w.alloc (.cells #[.int .u64 r.time.toNat,Fk.u8 r.level,S r.source,S r.text] 37)=w1 at *;refine(U.out _).mono ?_;rintro e w2 ⟨v2,rfl,J,ab⟩;have ac:=a7.trans ab;have ba:=ad (ab.heap Z);have HA:=ad (fun W (h:Fr w2 W) k y=>j8 (J.see.fr h) k y);obtain⟨va,vc,rfl⟩:=J.shape';clear J Z U;go_wp2_with fail;go_loopw [3,5] (fun K o wr=>∃ k:Nat,k<=A.length/\o=N k/\Ow wr w.heap.size eS K (bW [] (A.take k))/\Fr w2 wr) (fun _ o _=>A.length - (intOf o).toNat);case atStart=>exact⟨0,ap _,rfl,Ow.nil,Fr.refl _⟩
 case round=>
  obtain⟨k,y,rfl,d,z⟩:=hrel;have D:=nm (A.take k) [];rw [aV]at D;simp only [fz]at D;by_cases q:k<A.length
  · obtain⟨b,bc,bd,L,c0⟩:=HA.out wr z k q;cases L;have M:Hid (dK (bW [] (A.take k)) A[k]=bW [] (A.take (k+1))):=(by show _=_;rw [cL q];unfold bW;rw [mP];rfl);generalize bW [] (A.take k)=m at *;generalize A[k]=x at *;have O:=ad (Y.out _ m x wr d.see (by omega));obtain⟨ma,mc,rfl⟩:=d.shape';have i1:(0:Int)<=k:=(by omega);have i2:(k:Int)<A.length:=(by omega);go_wp2_with fail;refine O.out.mono ?_;rintro e w3 ⟨v3,rfl,F,aj⟩;have F:Ow w3 w.heap.size eS v3 (dK m x):=by
     rcases F with⟨rfl,Q⟩ | h;· rw [Q];exact d.fr aj
     · exact h.rebase (ac.trans z).size
    rw [M.out]at F;go_wp2_with fail;go_roundw;case rel=>exact⟨k+1,by omega,by go_num,F,z.trans aj⟩
    case measure=>simp [intOf];omega
  · obtain rfl:k=A.length:=(by omega);have cc:¬(A.length:Int)<A.length:=(by omega);rw [cu]at d;have cf:(bW [] A).length<=1000000:=(by have:=nm A [];simp at this;omega);have bv:Hid (T=bW (bW [] A) (B.map fW)):=X;clear X D;generalize bW [] A=P at *;have bx:=ac.trans z;have av:=z.heap ba.out;have k2:=ae av 2 rfl;have b0:=ad d;obtain⟨pa,pc,rfl⟩:=d.shape';clear d av;go_wp2_with fail;refine(V.out _).mono ?_;rintro e w4 ⟨v4,rfl,R,a0⟩;have HB:=ad (fun W (h:Fr w4 W) k y=>j8 (R.see.fr h) k y);have a1:=bx.trans a0;have a2:=b0.out.fr a0;obtain⟨vb,vd,rfl⟩:=R.shape';clear R V k2;go_wp2_with fail;go_loopw [3,6] (fun K o wr=>∃ k:Nat,k<=B.length/\o=N k/\Ow wr w.heap.size eS K (bW P ((B.take k).map fW))/\Fr w4 wr) (fun _ o _=>B.length - (intOf o).toNat);case atStart=>exact⟨0,ap _,rfl,a2,Fr.refl _⟩
    case round=>
     clear a2;obtain⟨k,y,rfl,d,G⟩:=hrel;have D:=nm ((B.take k).map fW) P;rw [dQ,aV]at D;by_cases q:k<B.length
     · obtain⟨b,bc,bd,L,c0⟩:=HB.out wr G k q;cases L;have M:Hid (dK (bW P ((B.take k).map fW)) (fW B[k])=bW P ((B.take (k+1)).map fW)):=(by show _=_;rw [cL q];unfold bW;rw [fN,mP];rfl);have co:=(a6.out B[k] (aH q)).2;generalize bW P ((B.take k).map fW)=m at *;generalize B[k]=x at *;have O:=ad (Y.out _ m (fW x) wr d.see (by omega));obtain⟨ma,mc,rfl⟩:=d.shape';have i1:(0:Int)<=k:=(by omega);have i2:(k:Int)<B.length:=(by omega);have cp:¬(9223372036854775807:Int)<1+x.length:=(by omega);go_wp2_with fail;refine O.out.mono ?_;rintro e w5 ⟨v5,rfl,I,a3⟩;have I:Ow w5 w.heap.size eS v5 (dK m (fW x)):=by
        rcases I with⟨rfl,Q⟩ | h;· rw [Q];exact d.fr a3
        · exact h.rebase (a1.trans G).size
       rw [M.out]at I;go_wp2_with fail;go_roundw;case rel=>exact⟨k+1,by omega,by go_num,I,G.trans a3⟩
       case measure=>simp [intOf];omega
     · obtain rfl:k=B.length:=(by omega);have cs:¬(B.length:Int)<B.length:=(by omega);rw [cu,<- bv.out]at d;go_wp2_with fail;go_ret;exact⟨_,rfl,d,a1.trans G⟩
def mY(l:List (List UInt8)):Prop:=jq l/\(∀ s∈l,1<=s.length/\s.length<=25)/\l.length<=1000000
theorem yS{a b:List UInt8}(h:¬a<b):Op.bytesLess a b=false:=by rw [Go.Proofs.bytesLess_eq];exact bi h
theorem Hb(d s:List UInt8)(w:World)(o:1<=s.length)(q:s.length<=25)(m:d<s) :
  Calls Tryz.prog 220 #[S d,S s] w fun e w'=>e=.returned (.bool true)/\w=w':=by
 have y:=yS (fun h=>mM _ (List.lt_trans h m):¬s<d);have z:(s == d)=false:=by rw [lp];rintro rfl;exact mM _ m
 have A:s.isEmpty=false:=by cases s <;> simp_all
 have D:(s == [])=false:=by cases s <;> simp_all
 have F:(s != [])=true:=by cases s <;> simp_all
 have G:(s.length:Int)<=25:=by omega
 clear m;go_enter Tryz.func220, Tryz.ntmps220;go_wp2_with fail;go_ret;exact⟨by first | rfl | simp,rfl⟩
theorem GU(v:Value)(l:List (List UInt8))(w:World)(D:af w eS v l)(q:mY l) :
  Calls Tryz.prog 152 #[v] w fun e w'=>e=.returned (.bool true)/\w=w':=by
 obtain⟨F,jh,X⟩:=q;have J:=ad (fun k q=>j8 D k q);have K:=ad jh;have G:=ad (fun a s W y m L=>Hb a s W y m L);have M:Hid (∀ k (h:k+1<l.length),l[k]<l[k+1]):=fun k h=>pR.1 F k (k+1) (by omega) h (by omega);obtain⟨Y,Z,rfl,aa,ab,ac⟩:=D.shape;clear F jh;go_enter Tryz.func152, Tryz.ntmps152;go_wp2_with fail;go_loopw [3,8] (fun O A wr=>∃ (k:Nat) (d:List UInt8),k<=l.length/\A=N k/\O=S d/\Hid ((k=0/\d=[])\/∃ j,∃ h:j<l.length,k=j+1/\d=l[j])/\w=wr) (fun _ A _=>l.length - (intOf A).toNat);case atStart=>exact⟨0,[],ap _,rfl,rfl,.inl ⟨rfl,rfl⟩,rfl⟩
 case round=>
  obtain⟨k,d,q,rfl,rfl,Q,rfl⟩:=hrel;by_cases z:k<l.length
  · obtain⟨b,aj,av,R,c0⟩:=J.out k z;cases R;have o:=K.out _ (aH z);have I:d<l[k]:=by
     rcases Q.out with⟨y,m⟩ | ⟨j,hj,y,m⟩
     · subst m;cases T:l[k]with
       | nil=>rw [T]at o;simp at o
       | cons c x=>exact List.nil_lt_cons c x
     · subst y m;exact M.out j z
    have U:Hid ((k+1=0/\l[k]=[])\/∃ j,∃ h:j<l.length,k+1=j+1/\l[k]=l[j]):=.inr ⟨k,z,rfl,rfl⟩;have V:=ad (G.out d l[k] w o.1 o.2 I);clear G o I;generalize l[k]=x at *;have i1:(0:Int)<=k:=(by omega);have i2:(k:Int)<l.length:=(by omega);go_wp2_with fail;refine V.out.mono ?_;rintro e w1 ⟨rfl,rfl⟩;go_wp2_with fail;exact⟨⟨k+1,x,by omega,by go_num,rfl,U,by first | rfl | trivial⟩,by simp [intOf];omega⟩
  · obtain rfl:k=l.length:=(by omega);have a6:¬(l.length:Int)<l.length:=(by omega);have a7:(l.length:Int)<=1048576:=(by omega);go_wp2_with fail;go_ret;exact⟨by first | rfl | simp,rfl⟩
theorem lO(a:List UInt8)(k:Nat)(d:k<a.length):∃ x,a[k]=x/\(⟨a.toArray⟩:ByteArray)[k]'(by simpa [ByteArray.size] using d)=x:=⟨_,rfl,rfl⟩
theorem yC(x y:UInt8)(h:¬x=y):((x.toNat:Int) == (y.toNat:Int))=false:=
 lp.2 fun d=>h (gq.1 (by omega))
theorem GS(a b:List UInt8)(T:a.length<=1000000000)(w:World) :
  Calls Tryz.prog 222 #[S a,S b] w fun e w'=>e=.returned (N (eg a b))/\Fr w w':=by
 have G:=ad (th a b);generalize eg a b=Z at *;go_enter Tryz.func222, Tryz.ntmps222;go_wp2_with fail;go_loopw [5] (fun I wr=>∃ k:Nat,k<=a.length/\k<=b.length/\I=N k/\Hid (∀ i,i<k->a[i]? = b[i]?)/\Fr w wr) (fun I _=>a.length - (intOf I).toNat);case atStart=>exact⟨0,ap _,ap _,rfl,ad (fun i h=>by omega),Fr.refl w⟩
 case round=>
  obtain⟨k,J,K,rfl,D,F⟩:=hrel;have U:(0:Int)<=k:=(by omega);by_cases m:k<a.length
  · have L:(k:Int)<a.length:=(by omega);by_cases o:k<b.length
    · have M:(k:Int)<b.length:=(by omega);by_cases d:a[k]=b[k]
      · have O:Hid (∀ i,i<k+1->a[i]? = b[i]?):=fun i V=>by
          by_cases e:i=k;· subst e;rw [bo m,bo o,d]
          · exact D.out i (by omega)
        obtain⟨x,q,Q⟩:=lO a k m;obtain⟨y,z,R⟩:=lO b k o;obtain rfl:x=y:=(by rw [<- q,<- z,d]);clear q z d;go_upto_region 2 with fail;go_quiet (fail);go_wp2_with fail;exact⟨⟨k+1,by omega,by omega,by go_num,O,F.drewN _⟩,by simp [intOf];omega⟩
      · have A:Hid (Z=k):=G.out k J K D.out (fun _ _=>by rw [bo m,bo o];simpa using d);obtain⟨x,q,Q⟩:=lO a k m;obtain⟨y,z,R⟩:=lO b k o;have X:=yC x y (by rw [<- q,<- z];exact d);clear q z d;go_upto_region 2 with fail;go_quiet (fail);go_wp2_with fail;go_ret;exact⟨by rw [A.out];rfl,F.drewN _⟩
    · have M:¬(k:Int)<b.length:=(by omega);have A:Hid (Z=k):=G.out k J K D.out (fun _ h=>absurd h o);go_upto_region 2 with fail;go_quiet (fail);go_wp2_with fail;go_ret;exact⟨by rw [A.out];rfl,F.drewN _⟩
  · have L:¬(k:Int)<a.length:=(by omega);have A:Hid (Z=k):=G.out k J K D.out (fun h _=>absurd h m);go_upto_region 2 with fail;go_quiet (fail);go_wp2_with fail;go_ret;exact⟨by rw [A.out];rfl,F.drewN _⟩
theorem K3(a b:List UInt8)(U:a.length<=1000000000)(w:World) :
  Calls Tryz.prog 184 #[S a,S b] w fun e w'=>e=.returned (N (eg a b))/\Fr w w':=by
 have G:=ad (th a b);generalize eg a b=Z at *;go_enter Tryz.func184, Tryz.ntmps184;go_wp2_with fail;go_loopw [5] (fun I wr=>∃ k:Nat,k<=a.length/\k<=b.length/\I=N k/\Hid (∀ i,i<k->a[i]? = b[i]?)/\Fr w wr) (fun I _=>a.length - (intOf I).toNat);case atStart=>exact⟨0,ap _,ap _,rfl,ad (fun i h=>by omega),Fr.refl w⟩
 case round=>
  obtain⟨k,J,K,rfl,D,F⟩:=hrel;have V:(0:Int)<=k:=(by omega);by_cases m:k<a.length
  · have L:(k:Int)<a.length:=(by omega);by_cases o:k<b.length
    · have M:(k:Int)<b.length:=(by omega);have X:¬(b.length:Int)<=k:=(by omega);by_cases d:a[k]=b[k]
      · have O:Hid (∀ i,i<k+1->a[i]? = b[i]?):=fun i Y=>by
          by_cases e:i=k;· subst e;rw [bo m,bo o,d]
          · exact D.out i (by omega)
        obtain⟨x,q,Q⟩:=lO a k m;obtain⟨y,z,R⟩:=lO b k o;obtain rfl:x=y:=(by rw [<- q,<- z,d]);clear q z d;go_upto_region 4 with fail;go_quiet (fail);go_wp2_with fail;exact⟨⟨k+1,by omega,by omega,by go_num,O,F.drewN _⟩,by simp [intOf];omega⟩
      · have A:Hid (Z=k):=G.out k J K D.out (fun _ _=>by rw [bo m,bo o];simpa using d);obtain⟨x,q,Q⟩:=lO a k m;obtain⟨y,z,R⟩:=lO b k o;have T:=yC x y (by rw [<- q,<- z];exact d);have aa:=nW T;clear q z d;go_upto_region 4 with fail;go_quiet (fail);go_wp2_with fail;go_ret;exact⟨by rw [A.out];rfl,F.drewN _⟩
    · have M:(b.length:Int)<=k:=(by omega);have A:Hid (Z=k):=G.out k J K D.out (fun _ h=>absurd h o);go_upto_region 4 with fail;go_quiet (fail);go_wp2_with fail;go_ret;exact⟨by rw [A.out];rfl,F.drewN _⟩
  · have L:¬(k:Int)<a.length:=(by omega);obtain rfl:k=a.length:=(by omega);have A:Hid (Z=a.length):=G.out _ J K D.out (fun h _=>absurd h m);go_wp2_with fail;go_ret;exact⟨by rw [A.out];rfl,F⟩
theorem xx(s:List UInt8)(n:Nat):(⟨s.toArray⟩:ByteArray).extract n s.length=⟨(s.drop n).toArray⟩:=GJ s n s.length (ag _)
theorem I1(v:Value)(l:List (List UInt8))(w:World)(o:af w eS v l)(I:l≠[])(q:∀ s∈l,s.length<=25)(hn:l.length<=64) :
  Calls Tryz.prog 154 #[v] w fun e w'=>∃ u,e=.returned u/\Ow w' w.heap.size eB u (aI l)/\Fr w w':=by
 have O:0<l.length:=oq.2 I;have Q:=ad (fun W (h:Fr w W) k A=>j8 (o.fr h) k A);have R:=ad q;have T:=ad (fun s (h:s.length<=1000000000) W=>uX s h W);have bb:=ad (fun n (h:n<18446744073709551616) W=>jK n h W);have bc:=ad (fun a b h W=>GS a b h W);have bd:=ad (fun k U J=>Au l k U J);have V:Hid (∀ k,(aI (l.take k)).length<=64*45):=fun k=>by have U:=lg 25 (by omega) (l.take k) (fun s o=>q s (eD o));have J:(l.take k).length<=64:=(by rw [aV];omega);have h3:(l.take k).length*(25+20)<=64*45:=b7 J (ag _);omega
 have bf:Hid (aI (l.take 1)=cZ l[0]):=by
  show _=_
  cases l with
  | nil=>exact absurd rfl I
  | cons x l=>simp [aI,jG]
 have bk:Hid (aI (l.take l.length)=aI l):=by show _=_;rw [cu]
 obtain⟨b0,cv,cx,X,bm⟩:=Q.out w (Fr.refl w) 0 O;rw [cX]at bm;obtain⟨a0,bt,d,cy,cz,bu⟩:=o.shape;obtain⟨fa,fc,Y,Z⟩:=kp eS 98 Tryz.underlying98 (by rw [d]at o;exact o) 1 (by omega);have c1:∀ W,(Instr.slice 98 (.slice a0 l.length bt) (some (.int .i64 1)) none none).run Tryz.prog W=.ok (.slice fa (l.length - 1) fc) W:=Y;have HF:=ad (fun W (h:Fr w W) k A=>j8 (Z.fr h) k A);have c3:l[0].length<=25:=q _ (aH O);have b1:=ad (T.out l[0] (by omega) w);generalize l[0]=x0 at *;rw [d]at X;cases X;subst d;clear Y Z q o bu I;go_enter Tryz.func154, Tryz.ntmps154;go_wp2_with fail;refine b1.out.mono ?_;rintro e w1 ⟨v1,rfl,K,ab⟩;rw [<- bf.out]at K;go_wp2_with fail;go_loopw [3,14] (fun ov L wr=>∃ k:Nat,k+1<=l.length/\L=N k/\Ow wr w.heap.size eB ov (aI (l.take (k+1)))/\Fr w wr) (fun _ L _=>l.length - (intOf L).toNat);case atStart=>exact⟨0,by omega,rfl,K,ab⟩
 case round=>
  clear K ab;obtain⟨k,A,rfl,D,F⟩:=hrel;have c6:=V.out (k+1);by_cases ac:k+1<l.length
  · obtain⟨b,c7,c8,d,c0⟩:=Q.out wr F k (by omega);cases d;have b3:(l.drop 1).length=l.length - 1:=(by simp);obtain⟨b',cF,cG,d,d0⟩:=HF.out wr F k (by omega);rw [b3]at d;cases d;have G:(l.drop 1)[k]'(by omega)=l[k+1]:=(by rw [rY];congr 1;omega);rw [G]at d0;have HN:=ad (bd.out (k+1) (by omega) ac);have da:=R.out _ (aH (show k<l.length by omega));have dc:=R.out _ (aH ac);have dd:=V.out (k+2);have e2:k+1 - 1=k:=(by omega);simp only [e2]at HN;generalize aI (l.take (k+1))=m at *;generalize av:aI (l.take (k+1+1))=m2 at *;have b8:=ad av;clear av;generalize l[k]=x at *;generalize l[k+1]=y at *;have dj:=(qD x y).2;have bA:=ad (bc.out x y (by omega) wr);generalize eg x y=n at *;have dk:(y.drop n).length<=25:=(by simp;omega);have dl:=xx y n;have dr:=iV (y.drop n) (by omega);have bB:=aG n (by omega);have bR:=ad (bb.out n (by omega));have ca:=ad (T.out (y.drop n) (by omega));have a1:=ad (fun W v0 v1 v2 s0 s1 s2=>uP W v0 v1 v2 m (ao n) (cZ (y.drop n)) s0 s1 s2 (by omega));rw [<- HN.out]at a1;generalize y.drop n=z at *;have i1:(0:Int)<=k:=(by omega);have i2:(k:Int)<((l.length - 1:Nat):Int):=(by omega);have i3:(k:Int)<l.length:=(by omega);have i4:(0:Int)<=n:=(by omega);have i5:(n:Int)<=y.length:=(by omega);obtain⟨oa,oc,rfl⟩:=D.shape';go_wp2_with fail;refine bA.out.mono ?_;rintro e w2 ⟨rfl,a3⟩;have cl:=D.fr a3;have d6:IntKind.u64.wrap (n:Int)=(n:Int):=aX _ (by omega);go_upto_region 6 with fail
    go_region_with
     ((first
      | (go_at_call 31; refine (bR.out _).mono ?_; rintro e w3 ⟨v3, rfl, a4, a5⟩; obtain ⟨q3, z3, cm⟩ := a4.shape'; subst cm)
      | (go_at_call 98; refine (ca.out _).mono ?_; rintro e w4 ⟨v4, rfl, a6, M⟩; obtain ⟨q4, z4, cn⟩ := a6.shape'; subst cn)
      | (go_at_call 30; refine (a1.out _ _ _ _ (cl.see.fr ((Fr.refl w2).drew.trans (a5.trans M))) (a4.see.fr M) a6.see).mono ?_; rintro e w5 ⟨v5, rfl, a7, co⟩)))
    all_goals have ba:Fr w w4:=F.trans (a3.trans ((Fr.refl w2).drew.trans (a5.trans M)));obtain⟨q5,z5,rfl⟩:=a7.shape';go_wp2_with fail;exact⟨⟨k+1,by omega,by go_num,by rw [b8.out];exact a7.rebase ba.size,ba.trans co⟩,by simp [intOf];omega⟩
  · obtain rfl:k=l.length - 1:=(by omega);have bB:¬((l.length - 1:Nat):Int)<((l.length - 1:Nat):Int):=(by omega);have G:l.length - 1+1=l.length:=(by omega);rw [G,bk.out]at D;clear G;go_wp2_with fail;go_ret;exact⟨_,rfl,D,F⟩
end Go.Proofs.YtdamnfpigajmoaaGreatDoor
