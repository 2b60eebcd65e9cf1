/- Lemmas for ThreeTurned. -/
import Derived.Test.YtndbpldeabnkbaaGreatDoorM20
set_option linter.all false
set_option maxHeartbeats 8000000
set_option maxRecDepth 100000
namespace Go.Fk
abbrev uy:=@Go.CallsIn.inRound
abbrev Ct:=@Nat.le_mul_of_pos_right
end Go.Fk
namespace Go.Proofs.YtndbpldeabnkbaaGreatDoor
open Go.RowKit Go.Fk
def Gi:Op:=.load 30 (.tmp 80)
attribute [local go_sem] Gi
attribute [local go_sem] ze
structure Cj (w0:World) (H B base k m c c4:Nat) (ov:Value) (out:Z0) (bv0:Value) (bad:List Nat) (n:Nat) (vs:Value) (l:Z0) (M:Nat) (pre:List (Fin M)) (W:World) (pv gv bv:Value) (ps:List Hd):Prop where
 h0:W.heap[H]?=some (.cells #[.pointer (some ⟨B,0,none⟩)] 163 (0,0))
 h1:W.heap[H+1]?=some (.cells #[pv] 75 (0,0))
 h2:W.heap[H+1+1]?=some (.cells #[gv] 105 (0,0))
 h3:W.heap[H+1+1+1]?=some (.cells #[vs] 30 (0,0))
 h4:W.heap[H+1+1+1+1]?=some (.cells #[N c4] 3 (0,0))
 R:kZ W B base k m c ov out bv (bad++jS (pre.map λj=>bz (bY l c 0 j.val)) n) (n+pre.length)
 oP:Ow W (H+1+1+1+1+1) aO pv ps
 oR:cr W (H+1+1+1+1+1) eB ps (pre.map λj=>bE (bY l c 0 j.val))
 oG:Ow W (H+1+1+1+1+1) eO gv (pre.map λj=>bz (bY l c 0 j.val))
 ch:ai (λq=>q=B\/bv0.ownBlock=some q) w0 W
 fb:∀b,bv.ownBlock=some b->bv0.ownBlock=some b\/H+1+1+1+1+1<=b
def Jo(d:World)(H B base k m c e:Nat)(h:Value)(o:Z0)(z:Value)(A:List Nat)(n:Nat)(D:Value)(l:Z0)(M:Nat)(F:List (Fin M))(W:World):Prop:=
 ∃G I J K,Cj d H B base k m c e h o z A n D l M F W G I J K
def Cj.own(I:World)(H B base k m c L:Nat)(O:Value)(Q:Z0)(R:Value)(U:List Nat)(n:Nat)(V:Value)(l:Z0)(M D:Nat)(hD:I.heap.size<=D):OwnFrom D (Jo I H B base k m c L O Q R U n V l M):=by
 rintro s W X aj ⟨Y,Z,bv,ps,h⟩ d F;have z:∀ {q:Nat} {o:Obj},W.heap[q]?=some o->o.isCells=true->X.heap[q]?=some o:=λ{q o} G ho=>by
  rw [d.block q (aR.1 G).1 (fun e => by
    obtain ⟨_, o', J, K⟩ := F q e.symm
    rw[G] at J; cases J; rw[ho] at K; cases K)]
  exact G
 have A:=λr e=>(F r e).2
 exact ⟨Y, Z, bv, ps, z h.h0 rfl, z h.h1 rfl, z h.h2 rfl, z h.h3 rfl, z h.h4 rfl, ⟨z h.R.h rfl, nw h.R.o d A, nw h.R.b d A⟩, nw h.oP d A, ⟨h.oR.1, fun t a b => nw (h.oR.2 t a b) d A⟩, nw h.oG d A,
   h.ch.trans (nA d) (λi hi e => by have := (F i e).1; omega), h.fb⟩
abbrev MT(B c o d:Nat)(e:Option Addr)(h H:Nat)(m:Value):Act:=
 { tmps:=#[.pointer (some ⟨B,0,none⟩),.slice e d h,.pointer (some ⟨H,0,none⟩),undef,.int .i64 0,.pointer (some ⟨H+1,0,none⟩),.pointer (some ⟨H+1+1,0,none⟩),m,undef,undef,undef,undef,undef,undef,.slice e d h,.pointer (some ⟨B,0,none⟩),.pointer (some ⟨B,0,none⟩),.pointer (some ⟨B,0,none⟩),.pointer (some ⟨B,2,none⟩),N c,N o,.func (.func 80) #[] #[.pointer (some ⟨H+1+1+1,0,none⟩),.pointer (some ⟨H+1+1+1+1,0,none⟩)],m,undef,undef,undef,undef,undef,undef,undef,undef,undef,undef,undef,undef,undef,undef,undef,undef,undef,undef,undef,undef,undef,undef,undef,undef,undef,undef,undef,undef,undef,undef,undef,undef,undef,undef,undef,undef,undef,undef,undef,undef,undef,undef,undef,undef,undef,undef,undef,undef,undef,undef,undef,undef,undef,undef,undef,undef,undef,undef,undef,undef,undef,undef,undef,undef,undef,undef,undef,undef,undef,undef],defers:=[] }
def kZ.put{w:World}{B base k m c n D:Nat}{A F:Value}{G:Z0}{I:List Nat}{o J:Obj}(h:kZ w B base k m c A G F I n)(d:w.heap[D]?=some o)(K:o.isCells=false):kZ (w.putObj D J) B base k m c A G F I n:=by
 have z:=wg w D J;have L:∀r,some D=some r->∃o:Obj,w.heap[r]?=some o/\o.isCells=false:=λr e=>by cases e;exact⟨_,d,K⟩
 refine⟨?_,nw h.o z L,nw h.b z L⟩;rw[z.block B (aR.1 h.h).1 (λe=>by cases e;rw[h.h]at d;cases d;cases K)];exact h.h
def UB{G:Nat->Prop}{B:Nat}{w W:World}(h:ai G w W)(d:B<=w.heap.size)(e:∀i,G i->B<=i):Below B w W:=ai.below (Below.refl B w) h d e
def MG(B base k m c n:Nat)(ov bv v:Value)(L l:Z0)(a1:List Nat)(w:World)(hR:kZ w B base k m c ov L bv a1 n)(hs:∀W,Below base w W->ah W eB v l)(hL:l.length=(k+m)*(c+4))(hl:l.length<=1000000)(qw:c<=4096)(hk:1<=k)(ij:k+m<=255)(q0:1<=c)(hn:n<=30000000)(q2:a1.length<=30000000)(q3:L.length<=20000000)(hb:base<=w.heap.size)(q4:base<=B)(ht:∀W,Below base w W->cP W):Calls Tryz.prog 102 #[.pointer (some ⟨B,0,none⟩),v] w λe w'=>e=.returned (.int .i64 (fE k m c l 0).1)/\((fE k m c l 0).1=0->∃ms bf,kZ w' B base k m c ms (L++(fE k m c l 0).2.flatten) bf (a1++kX l c 0 (k+m) n) (n+(k+m)))/\ai (λq=>q=B\/ov.ownBlock=some q\/bv.ownBlock=some q) w w':=by
 obtain⟨a0,bb,rfl,q5,q9,mu⟩:=(hs w (Below.refl _ _)).shape;have HS:=ad hs;have mv:=ad ht;have ra:c+4<=1000000:=by have:1*(c+4)<=(k+m)*(c+4):=bQ _ ω;omega
 obtain⟨d,dT⟩:∃d,d=c+4:=⟨_,rfl⟩;have rb:1<=d:=ω
 have rc:d<=1000000:=ω
 have mx:=ad (λ(i:Nat)=>show(l.drop (i*d)).take d=bY l c 0 i from by unfold bY;rw[dT,iH]);have re:IntKind.i64.wrap ((c:Int)+4)=(d:Int):=by rw[ax _ ω];omega
 have my:=ad (λW=>Ir a0 l.length bb d ω W);have m5:B<w.heap.size:=(aR.1 hR.h).1;have fQ:∀q,bv.ownBlock=some q->base<=q/\q<w.heap.size:=hR.b.lt;have i3:aH l.length d=k+m:=by rw[hL,<- dT];exact Uz (k+m) d ω
 have e1:∃A1,A1=w.alloc (.cells #[.pointer (some ⟨B,0,none⟩)] 163):=⟨_,rfl⟩;have fS:Fr w (((w.alloc (.cells #[.pointer (some ⟨B,0,none⟩)] 163)).alloc (.cells #[.slice none 0 0] 75)).alloc (.cells #[.slice none 0 0] 105)):=(((Fr.refl w).alloc _).alloc _).alloc _;have k0:(((w.alloc (.cells #[.pointer (some ⟨B,0,none⟩)] 163)).alloc (.cells #[.slice none 0 0] 75)).alloc (.cells #[.slice none 0 0] 105)).heap[w.heap.size]?=some (.cells #[.pointer (some ⟨B,0,none⟩)] 163 (0,0)):=by rw[jk _ _ _ (by rw[eW,eW];omega),jk _ _ _ (by rw[eW];omega)];exact aB _ _ _ rfl
 have k1:(((w.alloc (.cells #[.pointer (some ⟨B,0,none⟩)] 163)).alloc (.cells #[.slice none 0 0] 75)).alloc (.cells #[.slice none 0 0] 105)).heap[w.heap.size+1]?=some (.cells #[.slice none 0 0] 75 (0,0)):=by rw[jk _ _ _ (by rw[eW,eW];omega)];exact aB _ _ _ (eW _ _).symm
 have k2:(((w.alloc (.cells #[.pointer (some ⟨B,0,none⟩)] 163)).alloc (.cells #[.slice none 0 0] 75)).alloc (.cells #[.slice none 0 0] 105)).heap[w.heap.size+1+1]?=some (.cells #[.slice none 0 0] 105 (0,0)):=
  aB _ _ _ (by rw[eW,eW])
 have gi:(((w.alloc (.cells #[.pointer (some ⟨B,0,none⟩)] 163)).alloc (.cells #[.slice none 0 0] 75)).alloc (.cells #[.slice none 0 0] 105)).heap.size=w.heap.size+1+1+1:=by rw[eW,eW,eW]
 have cB:(((w.alloc (.cells #[.pointer (some ⟨B,0,none⟩)] 163)).alloc (.cells #[.slice none 0 0] 75)).alloc (.cells #[.slice none 0 0] 105)).cell? ⟨w.heap.size,0,none⟩=some (.pointer (some ⟨B,0,none⟩)):=by rw[aK k0];rfl
 have c2:(((w.alloc (.cells #[.pointer (some ⟨B,0,none⟩)] 163)).alloc (.cells #[.slice none 0 0] 75)).alloc (.cells #[.slice none 0 0] 105)).cell? ⟨B,2,none⟩=some (N c):=by rw[aK (fS.heap hR.h)];rfl
 refine(lg (n:=9)).1 ?_;refine callsIn_of_wp_marks Tryz.func102 rfl trivial ?_ rfl;simp only[Tryz.ntmps102,ou,aL,gS,Nat.reduceAdd,Nat.reduceSub,u9,uz,un,ux,fJ,lm];have rh:Fence.wide.fn 47:=trivial;have HR:=ad hR;have HL:=ad hL;have mK:=ad dT;have cs:=ad i3;clear e1 hR hs ht mu dT hL i3;gi_wp2_with (gi_at_call 47;refine(lg.2 (my.out _)).mono ?_;rintro e w3 ⟨rfl,rfl⟩);clear cB c2;generalize ((w.alloc (.cells #[.pointer (some ⟨B,0,none⟩)] 163)).alloc (.cells #[.slice none 0 0] 75)).alloc (.cells #[.slice none 0 0] 105)=A3 at *;have ct:Fr A3 (A3.alloc (.cells #[.slice a0 l.length bb] 30)):=(Fr.refl A3).alloc _;have g0:(A3.alloc (.cells #[.slice a0 l.length bb] 30)).heap.size=w.heap.size+1+1+1+1:=by rw[eW,gi]
 have R:=aB A3 (.cells #[.slice a0 l.length bb] 30) (w.heap.size+1+1+1) gi.symm;generalize A3.alloc (.cells #[.slice a0 l.length bb] 30)=A4 at *;have cc:Fr A4 (A4.alloc (.cells #[N d] 3)):=(Fr.refl A4).alloc _;have ec:(A4.alloc (.cells #[N d] 3)).heap.size=w.heap.size+1+1+1+1+1:=by rw[eW,g0]
 have g4:=aB A4 (.cells #[N d] 3) (w.heap.size+1+1+1+1) g0.symm;generalize A4.alloc (.cells #[N d] 3)=A5 at *;have J:Fr w A5:=fS.trans (ct.trans cc);have j0:=cc.heap (ct.heap k0);have j1:=cc.heap (ct.heap k1);have j2:=cc.heap (ct.heap k2);have j3:=cc.heap R;clear k0 k1 k2 R fS ct cc gi g0;obtain⟨H,hH⟩:∃H,H=w.heap.size:=⟨_,rfl⟩;have HH:=ad hH;rw[<- hH]at j0 j1 j2 j3 g4 ec m5 fQ hb ⊢;have rj:H<A5.heap.size:=ω
 clear hH;obtain⟨cb,ne,i7,gO⟩:=UA (H+1+1+1) (H+1+1+1+1) (.slice a0 l.length bb) l d ω ω ω A5 j3 g4 (HS.out _ (Below.mono (show Below w.heap.size w A5 from J) (by rw[<- HH.out];exact hb)));have HX:=ad (λW (h:Below base w W) j hj=>U9 (show 1<=d by omega) (HS.out W h) i7 j hj)
 have h0:Jo w H B base k m c d ov L bv a1 n (.slice a0 l.length bb) l (aH l.length d) [] A5:=
  ⟨_,_,bv,[],j0,j1,j2,j3,g4,by simpa [jS] using HR.out.fr J,Ow.nil,⟨rfl,λt a=>by simp at a⟩,Ow.nil,J.chg _,λb hb=>.inl hb⟩
 clear j0 j1 j2 j3 g4 i7
 refine wpIn_rangeFunc_ownF rfl ω (gf:=80) (lb:=#[.pointer (some ⟨H+1+1+1,0,none⟩),.pointer (some ⟨H+1+1+1+1,0,none⟩)]) rfl trivial (enters_of Tryz.func80 (by kernel_rfl) rfl) (gO _ ω) (λh k=>eA.trans h k) (eA.put ω ω) (Below.refl _ A5) (λ_=>rfl)
  _ (λ_ _ _=>False) (Cj.own w H B base k m c d ov L bv a1 n (.slice a0 l.length bb) l _ A5.heap.size J.size) (λ_ _ _ _ _ hs _ _=>hs) h0 (λx=>MT B c d l.length a0 bb H (kA cb ne l.length d x.val).v) ?assign ?body ?done ?stop
 case assign=>intro l x W K hK;gi_wp2;exact hK
 case body=>
  clear h0 gO;rintro lr I x W ⟨pv,gv,bf,X,hI⟩ he;have ji : Below base w W := UB hI.ch (by rw [← HH.out]; exact hb) (fun i e => by
    rcases e with e | e;·omega
    · exact (fQ i e).1)
  have hh:=HX.out W ji x.val x.isLt;have ng:=mv.out W ji;have nh:x.val<k+m:=(by have:=x.isLt;have:=cs.out;omega);have rl:I.length<k+m:=(by have:=cs.out;omega);have jv:=mx.out x.val;have nk:=xx x.val (k+m) c nh;have hm:(bY l c 0 x.val).length=c+4:=Ip l c 0 x.val (by have:=HL.out;omega);rw[jv]at hh;have hq:H+1+1+1+1+1<=W.heap.size:=(aR.1 hI.h4).1;have hv:(a1++jS (I.map λj=>bz (bY l c 0 j.val)) n).length<=40000000:=(by have:=BP (I.map λj=>bz (bY l c 0 j.val)) n;rw[cy]at this;rw[am];omega);have j4:=ad (Pe B base k m c (n+I.length) ov bf _ L _ _ W hI.R hh (by rw[hm];omega) (by rw[hm];have:=mK.out;omega) ω hv ω ng);have c0:W.cell? ⟨H,0,none⟩=some (.pointer (some ⟨B,0,none⟩)):=(by rw[aK hI.h0];rfl);obtain⟨pa,pc,nl⟩:=hI.oP.shape';obtain⟨ga,gc,j5⟩:=hI.oG.shape';subst nl;rw[cy]at j5;subst j5;have F:=ad hI;have nn:=ad (VA (I.map λj=>bz (bY l c 0 j.val)) (bz (bY l c 0 x.val)) n);have j6:(a1++jS (I.map (λj=>bz (bY l c 0 j.val))++[bz (bY l c 0 x.val)]) n)=(if bz (bY l c 0 x.val)then a1++jS (I.map λj=>bz (bY l c 0 j.val)) n else(a1++jS (I.map λj=>bz (bY l c 0 j.val)) n)++[n+I.length]):=by
   rw[nn.out,cy];cases bz (bY l c 0 x.val);·simp
   ·simp
  have np:=ad j6;have rv:(I.map λj=>bz (bY l c 0 j.val)).length=I.length:=cy _;have j7:(I++[x]).map (λj=>bz (bY l c 0 j.val))=I.map (λj=>bz (bY l c 0 j.val))++[bz (bY l c 0 x.val)]:=(by rw[eD];rfl);have ka:(I++[x]).map (λj=>bE (bY l c 0 j.val))=I.map (λj=>bE (bY l c 0 j.val))++[bE (bY l c 0 x.val)]:=(by rw[eD];rfl);have HM:=ad (And.intro j7 ka);have b8:X.length=I.length:=(by have:=hI.oR.1;rw[cy]at this;exact this);have a7:=ad b8;clear b8;clear j6 j7 ka hh hm nk jv hI;have r0:=hv;clear hv;generalize (a1++jS (I.map λj=>bz (bY l c 0 j.val)) n)=bd at *;have r2:Fence.wide.fn 147:=trivial;generalize bE (bY l c 0 x.val)=cu,bz (bY l c 0 x.val)=ok at *
  gi_wp2_with (first
    | (gi_at_call 147; refine (uy lr (lg.2 j4.out)).mono ?_; rintro e w5 ⟨u, rfl, cj, ns, h3, Z, nv⟩; obtain ⟨ua, uc, hu⟩ := cj.shape'; subst hu
       have m1 := mI F.out.h1 ω F.out.R.b δ Z
       have d1 := ag m1 0 rfl
       have U := nS F.out.oP F.out.R.h δ F.out.R.b δ Z
       have ec : H + 1 + 1 + 1 + 1 + 1 ≤ w5.heap.size := ay hq Z.size)
    | (gi_at_builtin; refine zF aO rfl (.tmp 29) (.tmp 31) 75 rfl Tryz.underlying75 (H + 1 + 1 + 1 + 1 + 1) rfl U [⟨ua, cu.length, uc⟩] _ _ _ rfl rfl rfl (by have := a7.out; simp; omega) ec ?_))
  intro v6 O e0;obtain⟨ab,ac,c5⟩:=e0.own.shape';rw[am,kH]at c5;subst c5;have m0:=mI F.out.h0 ω F.out.R.b δ Z;have m2:=mI F.out.h2 ω F.out.R.b δ Z;have m3:=mI F.out.h3 ω F.out.R.b δ Z
  have m4 := Z.heap F.out.h4 (by rintro (e | e); · omega
                                 · rcases F.out.fb _ e with h | h
                                   · have := (fQ _ h).2; omega
                                   · omega)
  have kl:=AD F.out.oR F.out.R.h δ F.out.R.b δ Z;have km:=nS F.out.oG F.out.R.h δ F.out.R.b δ Z;obtain⟨b1,b2,V,b4⟩:=I5 m1 U δ e0;have x1:=mI m0 ω U δ V;have x2:=mI m2 ω U δ V
  have x3 := V.heap m3 (by rintro (e | e); · omega
                           · have := (U.lt _ e).1; omega)
  have x4:=mI m4 (by omega) U (by decide) V;have x5:=mI h3.h (by omega) U (by decide) V;have x6:=nS h3.o m1 (by decide) U (by decide) V;have x7:=nS h3.b m1 (by decide) U (by decide) V;have x8:=AD kl m1 (by decide) U (by decide) V;have Q:=nS km m1 (by decide) U (by decide) V;have xu:=nS cj m1 (by decide) U (by decide) V;have z1:=e0.chg'.heap m1 (U.ne_cells m1 (by decide));have z3:=ag z1 0 rfl;have z2:O.frozen? ⟨H+1,0,none⟩=false:=a8 z1 0;have kq : KeepsOthers W (O.setCell ⟨H + 1, 0, none⟩ (.slice ab (X.length + 1) ac)) := (tE Z (fun k o ho e => by
    rcases e with e | e;·have hx := F.out.R.h; rw[← e, ho] at hx; cases hx; rfl
    · exact tw F.out.R.b e ho)).trans (tE V (λk o ho e => by
    rcases e with e | e;·have hx := m1; rw[← e, ho] at hx; cases hx; rfl
    · exact tw U e ho))
  have kr:ai (λq=>q=B\/bv.ownBlock=some q) w (O.setCell ⟨H+1,0,none⟩ (.slice ab (X.length+1) ac)):=
   (F.out.ch.trans Z (fun i hi e => by
     rcases e with e | e
     · exact .inl e
     · rcases F.out.fb _ e with h | h
       · exact .inr h
       · have := HH.out; omega)).trans V (λi hi e => by
     have := HH.out
     rcases e with e | e
     · omega
     · have := (U.lt _ e).1; omega)
  have n1:=ad kq;have n2:=ad kr;have r6:(O.setCell ⟨H+1,0,none⟩ (.slice ab (X.length+1) ac)).cell? ⟨H+1+1,0,none⟩=some (.slice ga I.length gc):=(by rw [aK x2];rfl);have n3:H+1+1+1+1+1<=(O.setCell ⟨H+1,0,none⟩ (.slice ab (X.length+1) ac)).heap.size:=ay ec V.size;have r7:I.length<=255:=(by omega);have n4:Hid ((O.setCell ⟨H+1,0,none⟩ (.slice ab (X.length+1) ac)).heap.size=O.heap.size):=(by show _=_;simp [World.setCell]);clear kq kr e0 m0 m1 m2 m3 m4 U kl km V Z j4 cj;have n5:=ad (And.intro b1 (And.intro b2 (And.intro b4 (And.intro x1 (And.intro x3 (And.intro x4 (And.intro x5 (And.intro x6 (And.intro x7 (And.intro x8 xu))))))))));have da:=ad (And.intro x2 Q);clear b1 b2 b4 x1 x2 x3 x4 x5 x6 x7 x8 Q xu;gi_wp2_with (gi_at_builtin;refine zF eO rfl (.tmp 33) (.tmp 35) 105 rfl Tryz.underlying105 (H+1+1+1+1+1) rfl da.out.2 [ok] _ _ 1 rfl rfl (by rw [n4.out];rfl) (by simp;omega) n3 ?_);intro v8 w8 e5;obtain⟨n6,n7,kv⟩:=e5.own.shape';rw [am,kH,cy]at kv;subst kv;have z4:=e5.chg'.heap da.out.1 (da.out.2.ne_cells da.out.1 (by decide));have z5:=ag z4 0 rfl;have z6:w8.frozen? ⟨H+1+1,0,none⟩=false:=a8 z4 0;obtain⟨b1,b2,b4,x1,x3,x4,x5,x6,x7,x8,xu⟩:=n5.out;obtain⟨x2,Q⟩:=da.out;obtain⟨g1,g2,R,g4⟩:=I5 x2 Q (by decide) e5;have y0:=mI x1 (by omega) Q (by decide) R;have y1:=mI b1 (by omega) Q (by decide) R;have y3:=mI x3 (by omega) Q (by decide) R;have y4:=mI x4 (by omega) Q (by decide) R;have y5:=mI x5 (by omega) Q (by decide) R;have y6:=nS x6 x2 (by decide) Q (by decide) R;have y7:=nS x7 x2 (by decide) Q (by decide) R;have yP:=nS b2 x2 (by decide) Q (by decide) R;have yR:=AD x8 x2 (by decide) Q (by decide) R;have yu:=nS xu x2 (by decide) Q (by decide) R;have ky := n1.out.trans (tE R (fun k o ho e => by
    rcases e with e | e;·have hx := x2; rw[← e, ho] at hx; cases hx; rfl
    · exact tw Q e ho))
  have fr : ai (fun q => q = B ∨ bv.ownBlock = some q) w (w8.setCell ⟨H + 1 + 1, 0, none⟩ (.slice n6 (I.length + 1) n7)) := n2.out.trans R (fun i hi e => by
      have := HH.out;rcases e with e | e;·omega
      · have := (Q.lt _ e).1; omega)
  have HG:=ad (And.intro g1 (And.intro g2 (And.intro y0 (And.intro y1 (And.intro y3 (And.intro y4 (And.intro y5 (And.intro y6 (And.intro y7 (And.intro yP (And.intro yR yu)))))))))));have k4:=ad (And.intro ky fr);clear g1 g2 R g4 y0 y1 y3 y4 y5 y6 y7 yP yR yu ky fr b1 b2 b4 x1 x2 x3 x4 x5 x6 x7 x8 Q xu e5;gi_wp2;obtain⟨g1,g2,y0,y1,y3,y4,y5,y6,y7,yP,yR,yu⟩:=HG.out;refine⟨k4.out.1,⟨y3.trans F.out.h3.symm,y4.trans F.out.h4.symm⟩,_,_,ns,X++[⟨ua,cu.length,uc⟩],y0,y1,g1,y3,y4,?_,yP,?_,?_,k4.out.2,?_⟩;·rw[HM.out.1,np.out,am,kH,<- jq];exact⟨y5,y6,y7⟩
  ·rw[HM.out.2];exact yR.snoc (yu.rebase hq)
  ·rw[HM.out.1];exact g2
  ·intro b hb;rcases nv b hb with h | h;·exact F.out.fb b h
   ·exact .inr (ay hq h)
 case done=>
  clear h0 gO HX;rintro D ys W hD rfl ⟨pv,gv,bf,X,hI⟩ hK;have e1:(List.finRange (aH l.length d)).map (λj:Fin (aH l.length d)=>bz (bY l c 0 j.val))=bD l c 0 (k+m):=GT (aH l.length d) (k+m) cs.out (λi=>bz (bY l c 0 i));have e2:(List.finRange (aH l.length d)).map (λj:Fin (aH l.length d)=>bE (bY l c 0 j.val))=dH l c 0 (k+m):=GT (aH l.length d) (k+m) cs.out (λi=>bE (bY l c 0 i));have e3:(List.finRange (aH l.length d)).length=k+m:=(by rw[List.length_finRange];exact cs.out);obtain⟨h0,h1,h2,_,_,hR,oP,oR,oG,ch,fb⟩:=hI;rw[e1,e3]at hR;rw[e2]at oR;rw[e1]at oG;clear e1 e2 e3;have b9:=oR.sees2 oP.see;have b8:X.length=k+m:=(by rw[b9.2.1,uV]);have dv:(bD l c 0 (k+m)).length=k+m:=tJ _ _ _ _;have fs:=EZ l c 0 (k+m) (by have:=HL.out;omega);have k8:=ad (λW' (z:Fr W W') h=>Xm k m c pv gv X (dH l c 0 (k+m)) (bD l c 0 (k+m)) W' hk ij ((oR.fr z).sees2 (oP.fr z).see) (oG.fr z).see b8 dv fs h);have k9:=ad (λW' (z:Fr W W') h=>Xl k m c pv gv X (dH l c 0 (k+m)) (bD l c 0 (k+m)) W' hk ij ω ((oR.fr z).sees2 (oP.fr z).see) (oG.fr z).see b8 dv fs h);have la:=ad (MH k m c l 0);have lc:=ad (DW k m c l 0);have li:=ad (MJ k m c l 0);have nF:=ad (tZ l c 0 (k+m) n);have h4:=AS k m c ((bh (bD l c 0 (k+m))).take k) (fo ((bh (bD l c 0 (k+m))).take k) (dH l c 0 (k+m)));have h5:(dH l c 0 (k+m)).length=k+m:=uV _ _ _ _;have ll:=ad (λ(bA:¬(bh (bD l c 0 (k+m))).length<k)=>AT k m c ((bh (bD l c 0 (k+m))).take k) (fo ((bh (bD l c 0 (k+m))).take k) (dH l c 0 (k+m))) (by rw[vR,aA];omega) (vS (bD l c 0 (k+m)) (dH l c 0 (k+m)) c _ (λr hr=>fZ hr) fs (by rw[dv,h5])));have a7:=ad (And.intro b8 (And.intro dv (And.intro h4 h5)));clear b8 dv fs b9 h4 h5;generalize dH l c 0 (k+m)=PS,bD l c 0 (k+m)=G,kO k m c ((bh (bD l c 0 (k+m))).take k) (fo ((bh (bD l c 0 (k+m))).take k) (dH l c 0 (k+m)))=Y at *;obtain⟨M,fv⟩:∃M,M=k+m:=⟨_,rfl⟩;have bB:=ad fv;obtain⟨pa,pc,d2⟩:=oP.shape';obtain⟨ga,gc,d3⟩:=oG.shape';rw[a7.out.1,<- fv]at d2;rw[a7.out.2.1,<- fv]at d3;subst d2 d3;clear fv;have sh:M<=255:=(by have:=bB.out;omega);have od:k<=M:=(by have:=bB.out;omega);have h6:∀w9:World,ai (λq=>q=B\/ov.ownBlock=some q\/bv.ownBlock=some q) w w9->ai (λq=>q=B\/ov.ownBlock=some q\/bv.ownBlock=some q) w (w9.putObj D (.deferred none)):=λw9 h=>h.trans (nA (wg w9 D _)) (λi hi e=>by cases e;have:=J.size;omega);have h7:ai (λq=>q=B\/ov.ownBlock=some q\/bv.ownBlock=some q) w W:=ch.mono (λi _ e=>e.elim .inl (λh=>.inr (.inr h)));have c0:=ag h0 0 rfl;have c1:=ag h1 0 rfl;have c2:=ag h2 0 rfl;have d0:W.cell? ⟨B,0,none⟩=some (N k):=(by rw[aK hR.h];rfl);have d1:W.cell? ⟨B,1,none⟩=some (N m):=(by rw[aK hR.h];rfl);gi_step;gi_step;refine wpIn_wide.2 ?_;by_cases bA:(bh G).length<k
  ·have f1:=ad (k8.out W.drew (Fr.refl W).drew bA);go_upto_region 8 with fail
   go_region_held3 (λw' => w'.cell? ⟨H, 0, none⟩ = some (.pointer (some ⟨B, 0, none⟩)) ∧ w'.cell? ⟨H + 1, 0, none⟩ = some (.slice pa M pc) ∧ w'.cell? ⟨H + 1 + 1, 0, none⟩ = some (.slice ga M gc) ∧ w'.cell? ⟨B, 0, none⟩ = some (N k) ∧ w'.cell? ⟨B, 1, none⟩ = some (N m))
    (first | go_keep)
    ((go_at_call 148;refine f1.out.mono ?_;rintro e w1 ⟨rfl,aa⟩;have hA:=aa.cell c0;have hB:=aa.cell c1;have hE:=aa.cell c2;have hG:=aa.cell d0;have lo:=aa.cell d1))
   go_wp2_with fail;have a6:=(Fr.refl W).drew.trans aa;have d4:=h7.trans (a6.chg (λ_=>False)) (λi _ e=>e.elim);have oe:=a6.heap hK;refine⟨σ,.inl ⟨_,_,rfl,zd oe,?_⟩⟩;refine⟨_,results_tmp rfl _ _ _,?_,?_,h6 _ d4⟩;·rw[la.out bA];rfl
   ·rw[la.out bA];intro h;cases h
  ·have ol:k<=(bh G).length:=ω;have f1:=ad (k9.out W.drew (Fr.refl W).drew ol);go_upto_region 8 with fail
   go_region_held3 (λw' => w'.cell? ⟨H, 0, none⟩ = some (.pointer (some ⟨B, 0, none⟩)) ∧ w'.cell? ⟨H + 1, 0, none⟩ = some (.slice pa M pc) ∧ w'.cell? ⟨H + 1 + 1, 0, none⟩ = some (.slice ga M gc) ∧ w'.cell? ⟨B, 0, none⟩ = some (N k) ∧ w'.cell? ⟨B, 1, none⟩ = some (N m))
    (first | go_keep)
    ((go_at_call 148;refine f1.out.mono ?_;rintro e w1 ⟨v1,rfl,xs,hJ,d5,aa⟩;obtain⟨na,nc,f2⟩:=hJ.shape';subst f2;have hA:=aa.cell c0;have hB:=aa.cell c1;have hE:=aa.cell c2;have hG:=aa.cell d0;have lo:=aa.cell d1))
   have f3:xs.length=M:=(by rw[d5.1,a7.out.2.2.1];exact bB.out.symm);rw[f3];have ls:G.length=M:=(by rw[a7.out.2.1];exact bB.out.symm);have he:X.length=M:=(by rw[a7.out.1];exact bB.out.symm);have lt:Y.length=M:=(by rw[a7.out.2.2.1];exact bB.out.symm);have lu:PS.length=M:=(by rw[a7.out.2.2.2];exact bB.out.symm);have aj:=ad (And.intro f3 (And.intro ls (And.intro he (And.intro lt lu))));have a6:=(Fr.refl W).drew.trans aa;have sN:=hJ.see;rw[f3]at sN;have sG:=(oG.fr a6).see;have sP:=(oP.fr a6).see;have rP:=oR.fr a6;have lv:=hR.fr a6;have lz:=a6.heap hK;have om:=a6.heap h0;have oo:∀q,ov.ownBlock=some q->base<=q/\q<H:=λq e=>(by have h:=HR.out.o.lt q e;have:=HH.out;exact⟨h.1,ω⟩);have d4:=h7.trans (a6.chg (λ_=>False)) (λi _ e=>e.elim);clear f3 ls he lt lu hJ aa f1 k9 k8 c0 c1 c2 d0 d1 h0 h1 h2 hR oP oR oG ch hK a7 h7 a6;go_wp2;go_loopw [58] (λiv wr=>∃i:Nat,i<=M/\iv=N i/\(∀j,j<i->G.getD j false=true->Y.getD j []=PS.getD j [])/\Fr w1 wr) (λiv _=>M-(intOf iv).toNat);case atStart=>exact⟨0,ar _,rfl,λj h=>absurd h (uh j),Fr.refl _⟩
   case round=>
    obtain⟨i,hi,rfl,f4,z⟩:=hrel;have t1:=z.cell hB;have t2:=z.cell hE;by_cases bs:i<M
    ·obtain⟨nb,ss,st,f2,e1⟩:=(sN.fr z).cell1 Hd.v rfl i (by rw[aj.out.1];exact bs);obtain⟨gb,o2,su,d3,e2⟩:=(sG.fr z).cell1 (λb=>.bool b) rfl i (by rw[aj.out.2.1];exact bs);obtain⟨pb,sy,sz,d2,e3⟩:=(sP.fr z).cell1 Hd.v rfl i (by rw[aj.out.2.2.1];exact bs);simp only[ir]at f2 d3 d2;obtain⟨rfl,o3,rfl⟩:=f2;obtain⟨rfl,o4,rfl⟩:=d3;obtain⟨rfl,o6,rfl⟩:=d2;clear o3 o4 o6;have l0:i<xs.length:=(by rw[aj.out.1];exact bs);have dE:i<G.length:=(by rw[aj.out.2.1];exact bs);have l1:i<X.length:=(by rw[aj.out.2.2.1];exact bs);have f5:i<Y.length:=(by rw[aj.out.2.2.2.1];exact bs);have f7:i<PS.length:=(by rw[aj.out.2.2.2.2];exact bs);have HE:=ad (Co xs[i].v X[i].v (Y[i]'f5) (PS[i]'f7) wr ((d5.2 i l0 f5).see.fr z) ((rP.2 i l1 f7).see.fr z));have hW:=ad (cg G i false dE);have hY:=ad (cg Y i [] f5);have hZ:=ad (cg PS i [] f7);have o7:=ad dE;have i1:(i:Int)<M:=ω;have i2:(0:Int)<=i:=ω;obtain⟨xh,l2⟩:∃x,x=xs[i]:=⟨_,rfl⟩;obtain⟨ph,l3⟩:∃x,x=X[i]:=⟨_,rfl⟩;obtain⟨gg,l4⟩:∃x:Bool,x=G[i]'dE:=⟨_,rfl⟩;obtain⟨nx,l5⟩:∃x,x=Y[i]:=⟨_,rfl⟩;obtain⟨sx,l6⟩:∃x,x=PS[i]:=⟨_,rfl⟩;rw[<- l2]at e1 HE;rw[<- l3]at e3 HE;have pj:wr.cell? ⟨gb,o2+i,none⟩=some (.bool (G[i]'dE)):=e2;clear e2;rw[<- l4]at pj hW;rw[<- l5]at HE hY;rw[<- l6]at HE hZ;clear l2 l3 l4 l5 l6 l0 dE l1 f5 f7 sN sG sP d5 rP;obtain⟨xa,xn,xc⟩:=xh;obtain⟨qa,qn,qc⟩:=ph;simp only[Hd.v]at e1 e3 HE;cases gg
     ·go_wp2;go_roundw
      case rel => exact ⟨i + 1, by omega, by go_num, (fun j hj hg => by
        rcases mV j i with h | h;·exact f4 j h hg
        · obtain rfl : j = i := by omega
          rw[hW.out] at hg; cases hg), z⟩
      case measure=>exact μ
     ·by_cases f9:nx=sx
      ·rw[bp f9]at HE;go_wp2_with fail;refine HE.out.mono ?_;rintro e w5 ⟨rfl,J⟩;have fB:=z.trans J;go_wp2;go_roundw
       case rel=>
        exact ⟨i + 1, by omega, by go_num, (fun j hj hg => by
          rcases mV j i with h | h;·exact f4 j h hg
          · obtain rfl : j = i := by omega
            rw[hY.out, hZ.out, f9]), fB⟩
       case measure=>exact μ
      ·rw[br f9]at HE;have ma:=li.out bA (Nu Y PS G i o7.out hW.out (by rw[hY.out,hZ.out];exact f9));have mb:=ad ma;clear ma;go_wp2_with fail;refine HE.out.mono ?_;rintro e w5 ⟨rfl,J⟩;have fB:=z.trans J;go_wp2_with fail;have Z:=d4.trans (fB.chg (λ_=>False)) (λi _ e=>e.elim);refine⟨σ,.inl ⟨_,_,rfl,zd (fB.heap lz),?_⟩⟩;refine⟨_,results_tmp rfl _ _ _,?_,?_,h6 _ Z⟩;·rw[mb.out];rfl
       ·rw[mb.out];intro h;cases h
    ·obtain rfl:i=M:=(by omega);have h4:¬((i:Int)<i):=(by omega);have mc:=ad (lc.out bA (Ev Y PS G (fun j hj hg=>f4 j (by have:=aj.out.2.1;omega) hg)));have md:=Bp c (Y.take k) (fun p hp=>ll.out bA p (fZ hp));have mg:(Y.take k).length=k:=(by rw [aA,aj.out.2.2.2.1];omega);rw [mg]at md;have pm:k*c<=(k+m)*(c+4):=bH (by omega) (by omega);have pn:(Y.take k).flatten.length<=1000000:=(by have:=HL.out;omega);obtain⟨sC,mi⟩:=jj aO 75 Tryz.underlying75 (show ah wr aO (.slice na i nc) xs from sN.fr z) k (by rw [aj.out.1];exact od);have b9 : cO wr aO eB (.slice na k nc) (xs.take k) (Y.take k) := ⟨mi, by rw [aA, aA, aj.out.1, aj.out.2.2.2.1], fun t ha hb => by
       simp only[qz]
       exact (d5.2 t (by rw[aA] at ha; omega) (by rw[aA] at hb; omega)).see.fr z⟩
     have mj:=ad (λW' (h:Fr wr W')=>JO (.slice na k nc) (xs.take k) (Y.take k) W' ⟨b9.1.fr h,b9.2.1,λt ha hb=>(b9.2.2 t ha hb).fr h⟩ ω);clear md pm mg mi b9 sN sG sP d5 rP ll f4 lc li;obtain⟨FL,ic⟩:∃FL,FL=(Y.take k).flatten:=⟨_,rfl⟩;rw[<- ic]at mj pn;have po:=ad ic;clear ic;have fC:=lv.fr z;obtain⟨oa,oc,rfl⟩:=fC.o.shape';have b0:=z.cell hA;have V:=z.cell hG;have b4:wr.cell? ⟨B,3,none⟩=some (.slice oa L.length oc):=(by rw[aK fC.h];rfl);have cp:=ad fC;have pu:base<=wr.heap.size:=(by have:=z.size;have:=d4.size;have:=HH.out;omega);have pw:Hid (L.length+FL.length<=2147483648):=(by show _<=_;omega);clear hA hB hE hG lo t1 t2 fC lv;go_upto_region 17 with fail;have px:=z.heap om;have mn:∀q,(Value.slice oa L.length oc).ownBlock=some q->q<H:=λq e=>(oo q e).2;rw[show Op.load 30 (.tmp 80)=Gi from rfl]
     go_region_held3 (λW => W.cell? ⟨H, 0, none⟩ = some (.pointer (some ⟨B, 0, none⟩)) ∧ W.cell? ⟨B, 0, none⟩ = some (N k))
      (first | exact p4 | exact p5 | exact p6 _ | go_keep)
      (((first
        | (go_at_call 76; refine (mj.out _ (Fr.refl wr).drew).mono ?_; rintro e w5 ⟨v5, rfl, cj, J⟩
           have p4 := And.intro (J.cell b0) (J.cell V)
           have b5 := J.cell b4
           obtain ⟨fa, fc, p7⟩ := cj.shape'
           subst p7)
        | (refine xg eB rfl (.tmp 81) (.tmp 89) 30 rfl Tryz.underlying30 base rfl (cp.out.o.fr ((Fr.refl wr).drew.trans J)) _ FL rfl cj.see pw.out (ay pu J.size) ?_
           intro v' O bu
           have m0 := bu.chg'.heap (J.heap (show wr.drew.heap[H]? = _ from px)) (λe => by have := mn H e; omega)
           have mB := bu.chg'.heap (J.heap (show wr.drew.heap[B]? = _ from cp.out.h)) (cp.out.o.ne_cells cp.out.h δ)
           obtain ⟨ab, ac, c5⟩ := bu.own.shape'
           rw[am] at c5
           subst c5
           have p5 : O.cell? ⟨H, 0, none⟩ = some (.pointer (some ⟨B, 0, none⟩)) ∧ O.cell? ⟨B, 0, none⟩ = some (N k) := ⟨by rw[aK m0]; rfl, by rw[aK mB]; rfl⟩
           have e6 := ag mB 3 rfl
           have f6 : O.frozen? ⟨B, 3, none⟩ = false := a8 mB 3
           have p6 : ∀u, (O.setCell ⟨B, 3, none⟩ u).cell? ⟨H, 0, none⟩ = some (.pointer (some ⟨B, 0, none⟩)) ∧ (O.setCell ⟨B, 3, none⟩ u).cell? ⟨B, 0, none⟩ = some (N k) := λu => ⟨by rw[aK ((a9 O ⟨B, 3, none⟩ u).heap m0 (λe => by have e : H = B := e; omega))]; rfl, by rw[aK (aJ mB 3 u)]; rfl⟩))))
     all_goals go_wp2_with fail
     all_goals
      have fD:=a9 O ⟨B,3,none⟩ (.slice ab (L.length+FL.length) ac);have p8:=aJ mB 3 (.slice ab (L.length+FL.length) ac);have fN:Fr wr w5:=(Fr.refl wr).drew.trans J;have o5:=cp.out.o.fr fN;have ql:=cp.out.b.fr fN;have mp:=dx ql o5 bu δ;have qp:∀q,(Value.slice ab (L.length+FL.length) ac).ownBlock=some q->¬q=B:=λq e h=>bu.own.ne_cells mB δ (by rw[e,h]);have qs:∀q,bf.ownBlock=some q->¬q=B:=λq e h=>mp.ne_cells mB δ (by rw[e,h])
      have qt:kZ (O.setCell ⟨B,3,none⟩ (.slice ab (L.length+FL.length) ac)) B base k m c (.slice ab (L.length+FL.length) ac) (L++FL) bf (a1++jS G n) (n+(k+m)):=
       ⟨p8,bu.own.chg fD qp,mp.chg fD qs⟩
      have mq:(O.setCell ⟨B,3,none⟩ (.slice ab (L.length+FL.length) ac)).heap[D]?=some (.deferred (some [])):=fD.heap (bu.chg'.heap (fN.heap (z.heap lz)) (λe=>by have:=mn D e;have:=J.size;omega)) (λe=>by have e:D=B:=e;omega);have fr:=((((d4.trans (z.chg (λ_=>False)) (λi _ e=>e.elim)).trans (fN.chg (λ_=>False)) (λi _ e=>e.elim)).trans bu.chg' (λi _ e=>Or.inr (Or.inl e))).trans fD (λi _ e=>Or.inl e));refine⟨σ,.inl ⟨_,_,rfl,zd mq,?_⟩⟩;refine⟨_,results_tmp rfl _ _ _,?_,?_,h6 _ fr⟩;·rw[mc.out];rfl
      ·intro _;refine⟨.slice ab (L.length+FL.length) ac,bf,?_⟩;rw[mc.out,nF.out];show kZ _ B base k m c _ (L++(Y.take k).flatten) bf _ _;rw[<- po.out];exact qt.put mq rfl
 case stop=>rintro D c I W hD _ h _;exact h.elim
def Ee:Value->Nat | .slice _ n _=>n | _=>0
def Wv(k m c n:Nat)(v:Value)(l:Z0)(w:World)(X:ah w eB v l)(hk:1<=k)(bR:k+m<=255)(bT:1<=c)(ca:c<=4096)(hn:n<=4294967296)(hF:l.length<=6000\/((k+m)*(c+4)<=1000000/\n<=1000000/\l.length<=20000000))(Z:cP w):Calls Tryz.prog 55 #[N k,N m,N c,N n,v] w λe w'=>∃u G,e=.returned (.tuple #[u,G,.int .i64 ((gj k m c n l).1:Int)])/\Ow w' w.heap.size eB u (gj k m c n l).2.1/\Ow w' w.heap.size eJ G (gj k m c n l).2.2/\Fr w w':=by
 have I:=ad (Jq k m c n hk bR bT ca);have hl:l.length<=20000000:=ω
 have ge:=ad (show ∀L,L=(k+m)*(c+4)->L<=l.length->L<=1000000 from λL h1 h2=>by rw[<- h1]at hF;omega);have gg:=ad (show l.length<=6000\/n<=1000000 by omega);clear hF;obtain⟨q1,q2⟩:=Aa k m c n;obtain⟨a0,gs,rfl,ia,gv,_⟩:=X.shape;unfold maxLen at gv;by_cases a3:8388608<n;·rw[q2 ω]at I;have F:=ad (Av k m c n l a3);clear X Z q1 q2;go_in;go_wp2_with fail;refine(I.out _).mono ?_;rintro e J ⟨rfl,K⟩;go_wp2;go_ret3;rw[F.out];exact⟨_,_,rfl,Ow.nil,Ow.nil,K⟩
 ·obtain⟨q3,q4⟩:=q1 ω;by_cases ac:16777216<aG k c n*((k+m)*(c+4));·rw[q4 ω]at I;have F:=ad (As k m c n l a3 ac);clear X Z q3 q4 q2 q1 ac;go_in;go_wp2_with fail;refine(I.out _).mono ?_;rintro e J ⟨rfl,K⟩;go_wp2;go_ret3;rw[F.out];exact⟨_,_,rfl,Ow.nil,Ow.nil,K⟩
  ·rw[q3 ω]at I;by_cases ef:l.length<aG k c n*((k+m)*(c+4));·have F:=ad (Aq k m c n l a3 ac ef);clear X Z q3 q4 q2 q1;generalize aG k c n*((k+m)*(c+4))=size at *;have j1:(l.length:Int)<size:=ω;go_in;go_wp2_with fail;refine(I.out _).mono ?_;rintro e J ⟨rfl,K⟩;go_wp2;go_ret3;rw[F.out];exact⟨_,_,rfl,Ow.nil,Ow.nil,K⟩
   ·by_cases el:aG k c n*((k+m)*(c+4))<l.length;·have F:=ad (Ar k m c n l a3 ac el);clear X Z q3 q4 q2 q1;generalize aG k c n*((k+m)*(c+4))=size at *;have j1:¬(l.length:Int)<size:=ω;have j2:(size:Int)<l.length:=ω;go_in;go_wp2_with fail;refine(I.out _).mono ?_;rintro e J ⟨rfl,K⟩;go_wp2;go_ret3;rw[F.out];exact⟨_,_,rfl,Ow.nil,Ow.nil,K⟩
    ·have a6:l.length=aG k c n*((k+m)*(c+4)):=ω;have F:=ad (Au k m c n l a3 ac a6);have g1:1*5<=(k+m)*(c+4):=bH ω ω;have g2:1*1<=k*c:=bH hk bT;have bl:n<=aG k c n*(k*c):=(by have:=λh=>(tf k c n ω (aG k c n)).2 h;omega);have bm:=ad (Ed k m c bR ca);have cc:=ad (λs=>MI k m c l (s*((k+m)*(c+4))));have cf:=ad (λs b=>V9 l c (s*((k+m)*(c+4))) (k+m) b);have ch:=ad (On k m c l);have cj:=ad (Om k m c l);have ck:=ad (Aw k m c l);have bn:=ad (DV k m c l);have eq:=ad (λa b=>show(kX l c a (k+m) b).length<=k+m from by rw[tZ];exact ay (BP _ _) (iT (tJ l c a (k+m))))
     have cl := ad (fun (B D : Nat) (ov G v' : Value) (d l' : List UInt8) (z : List Nat) (W : World) (h1 : kZ W B w.heap.size k m c ov d G z D) (h2 : ∀ Y, Below w.heap.size W Y → ah Y eB v' l') (h3 : l'.length = (k + m) * (c + 4)) (h4 : l'.length ≤ 1000000) (h5 : D ≤ 30000000) (h6 : z.length ≤ 30000000) (h7 : d.length ≤ 20000000) (h8 : w.heap.size ≤ W.heap.size) (h9 : w.heap.size ≤ B) (ha : ∀ Y, Below w.heap.size W Y → cP Y) =>
       MG B w.heap.size k m c D ov G v' d l' z W h1 h2 h3 h4 ca hk bR bT h5 h6 h7 h8 h9 ha)
     obtain⟨o,a7⟩:∃o,o=aG k c n:=⟨_,rfl⟩;obtain⟨L,ak⟩:∃L,L=(k+m)*(c+4):=⟨_,rfl⟩;obtain⟨M,cm⟩:∃M,M=k*c:=⟨_,rfl⟩;rw[<- a7,<- ak]at a6 I;rw[<- ak]at bm g1 cc cf cl ch cj ck bn;rw[<- a7]at F bl;rw[<- cm]at g2 bl ck bn;have er:o*5<=o*L:=oj _ ω;have cn:M<=L:=(by rw[cm,ak];exact bH ω ω);have bx:o*M<=o*L:=oj _ cn;have es:(k+m)<=L:=(by rw[ak];exact Ct _ ω);have b0:o*(k+m)<=o*L:=oj _ es;have cq:=ad (And.intro a6 (And.intro bl (And.intro er (And.intro bx (And.intro cn b0)))));have HS:=ad X;have HT:=ad Z;rw[<- a6]at I;have ih:¬(l.length:Int)<l.length:=ω;have ij:(n:Int)<=8388608:=ω;have hd:=ad ak;clear X Z q1 q2 q3 q4 ac ef el a6 a7 ak cm er cn bx es b0 bl;go_in;go_wp2_with fail;refine(I.out _).mono ?_;rintro e J ⟨rfl,K⟩;go_wp2_with fail;have hA:Fr J (J.alloc (.cells #[N k,N m,N c,.slice none 0 0,.slice none 0 0,.int .i64 0] 165)):=(Fr.refl J).alloc _;have e5:=aB J (.cells #[N k,N m,N c,.slice none 0 0,.slice none 0 0,.int .i64 0] 165) J.heap.size rfl;generalize J.alloc (.cells #[N k,N m,N c,.slice none 0 0,.slice none 0 0,.int .i64 0] 165)=w2 at *;have hg:=K.size;generalize J.heap.size=B at *;have e6:=K.trans hA;have e7:kZ w2 B w.heap.size k m c (.slice none 0 0) [] (.slice none 0 0) [] 0:=⟨e5,Ow.nil,Ow.nil⟩;clear hA e5 K I;go_loopw [4,16] (λsv ev wr=>∃(s D:Nat) (a':Option Addr) (c':Nat) (ov G:Value) (d:Z0) (z:List Nat),s<=o/\Hid (D=l.length-s*L)/\sv=.slice a' D c'/\ah w eB (.slice a' D c') (l.drop (s*L))/\kZ wr B w.heap.size k m c ov d G z (s*(k+m))/\Hid (d.length=s*M)/\Hid (z.length<=s*(k+m))/\Hid (fU k m c l (o-s) s d z=fU k m c l o 0 [] [])/\Fr w wr) (λsv _ _=>Ee sv);case atStart=>exact⟨0,l.length,a0,gs,_,_,[],[],ar _,by show _=_;rw[py,wk],rfl,by rw[py];exact HS.out,by rw[py];exact e7,by show _=_;simp,ar _,rfl,e6⟩
     case round=>
      clear e7 e6;obtain⟨s,D,a',c',ov,G,d,z,e8,aC,rfl,b3,A,ba,ct,b4,Q⟩:=hrel;by_cases e9:s<o
      ·have eL:s*L+L<=l.length:=(by rw [cq.out.1];have:=bQ L (show s+1<=o from e9);rw [be,dC]at this;exact this);have bb:(l.drop (s*L)).length=D:=(by rw [aN];exact aC.out.symm);have b5:L<=D:=(by rw [aC.out];omega);obtain⟨fb,bc⟩:=jj eB 30 Tryz.underlying30 b3 L (by rw [bb];exact b5);obtain⟨fa,fc,b6,R⟩:=lK eB 30 Tryz.underlying30 b3 L (by rw [bb];exact b5);rw [bb]at b6 R;have cu:((l.drop (s*L)).take L).length=L:=(by rw [aA,bb];omega);have b0:s*(k+m)<=o*(k+m):=bQ _ e8;have bx:s*M<=o*M:=bQ _ e8;obtain⟨l1,l2,l3,l4,l5,l6⟩:=cq.out;have hh:z.length<=30000000:=(by have:=ct.out;omega);have c5:d.length<=20000000:=(by have:=ba.out;omega);have hS:=ad (fun W (h:Fr wr W)=>cl.out B (s*(k+m)) ov G (.slice a' L c') d ((l.drop (s*L)).take L) z W (A.fr h) (fun Y h'=>bc.fr (Below.trans (show Below w.heap.size w W from Q.trans h) h')) cu (by rw [cu];exact ge.out L hd.out (by omega)) (by omega) hh c5 (Q.trans h).size hg (fun Y h'=>HT.out.fr (Below.trans (show Below w.heap.size w W from Q.trans h) h')));rw [cc.out s,cf.out s]at hS;obtain⟨f,fk⟩:∃ f,o - s=f+1:=⟨o - s - 1,by omega⟩;have fl:o - (s+1)=f:=(by omega);have c8:=b4.out;rw [fk]at c8;have cA:=ad (fun h=>ch.out f s d z h);have cB:=ad (fun h=>cj.out f s d z h);have cE:=ad (fun h=>bn.out (s*L) eL h);have i0:=eq.out (s*L) (s*(k+m));have cF:(s+1)*L=s*L+L:=(by rw [be,dC]);have fm:(s+1)*M=s*M+M:=(by rw [be,dC]);have fn:(s+1)*(k+m)=s*(k+m)+(k+m):=(by rw [be,dC]);have fr:(l.drop (s*L)).drop L=l.drop ((s+1)*L):=(by rw [lk,cF]);rw [fr]at R;have hm:Hid (D - L=l.length - (s+1)*L):=(by show _=_;rw [cF,aC.out];omega);have fs:=ad c8;have b8:=ad (And.intro fm (And.intro fn fl));have d0:wr.cell? ⟨B,0,none⟩=some (N k):=(by rw [aK A.h];rfl);have d1:wr.cell? ⟨B,1,none⟩=some (N m):=(by rw [aK A.h];rfl);have d2:wr.cell? ⟨B,2,none⟩=some (N c):=(by rw [aK A.h];rfl);have i6:=A.h;have fv:=A.o.lt;have f0:=A.b.lt;have f1:(0:Int)<D:=(by omega);have i7:(L:Int)<=D:=(by omega);have ho:=ad b5;clear l1 l2 l3 l4 l5 l6 b0 bx cu eL bb b5 cF fm fn fr c8 b4 fk fl bc b3 A;generalize kX l c (s*L) (k+m) (s*(k+m))=bs,fE k m c l (s*L)=sr at *;go_wp2_with fail;refine(bm.out _).mono ?_;rintro e w3 ⟨rfl,cG⟩;have f2:=ad (hS.out w3 cG);go_wp2_with fail;refine f2.out.mono ?_;rintro e w4 ⟨rfl,f3,f4⟩;have f5 : Fr w w4 := ai.below (Q.trans cG) f4 (Q.trans cG).size (fun i e => by
         rcases e with e | e | e;·omega
         · exact (fv i e).1
         · exact (f0 i e).1)
       have cL:=ad f3;clear f3 f4 hS f2;by_cases ap:sr.1=0
       ·obtain⟨hq,hr,cN⟩:=cL.out ap;have e0:=cN.h;have x0:=ag e0 0 rfl;have x1:=ag e0 1 rfl;have x2:=ag e0 2 rfl;have hu:=ad cN;have hw:=ad (cE.out ap);have hy:=ad (cA.out ap);rw[ap];clear e0 cN cE cA cB cL;go_wp2_with fail;refine(bm.out _).mono ?_;rintro e w5 ⟨rfl,f6⟩;have h0:=f5.trans f6;have hB:=hu.out.fr f6;go_wp2;go_roundw
        case rel=>
         exact ⟨s + 1, D - L, fa, fc, hq, hr, d ++ sr.2.flatten, z ++ bs, e9, hm, rfl, R, by rw [b8.out.2.1]; exact hB, by
           show _ = _
           rw[am, ba.out, hw.out, b8.out.1], by
           show _ ≤ _;rw[am, b8.out.2.1]
           have := ct.out; omega, by
           show _ = _
           rw[b8.out.2.2, ← hy.out]; exact fs.out, h0⟩
        case measure=>have:=ho.out;simp[Ee];omega
       ·have av:Hid (gj k m c n l=(sr.1,[],[])):=(by show _=_;rw[F.out];simp only[<- fs.out,cB.out ap,ap,if_false]);have hE:¬((sr.1:Nat):Int)=0:=ω;clear cE cA cB cL f0 fv F;obtain⟨x,O⟩:∃x,x=sr.1:=⟨_,rfl⟩;rw[<- O]at av hE ⊢;clear O;go_wp2;go_ret3;rw[av.out];exact⟨_,_,rfl,Ow.nil,Ow.nil,f5⟩
      ·have a7:o=s:=ω;subst a7;obtain⟨l1,l2,l3,l4,l5,l6⟩:=cq.out;have f1:D=0:=(by rw[aC.out];omega);subst f1;have cR:n<=d.length:=(by rw[ba.out];exact l2);have c5:d.length<=20000000:=(by rw[ba.out];omega);have cT:=b4.out;rw[fY]at cT;have f7:fU k m c l o 0 [] []=(0,d,z):=cT.symm;have av:Hid (gj k m c n l=if(d.drop n).all (· == 0)then(0,d.take n,z)else(2,[],[])):=ad (by rw[F.out,f7];rfl);obtain⟨oa,oc,rfl⟩:=A.o.shape';obtain⟨fa,fc,b6,R⟩:=lK eB 30 Tryz.underlying30 A.o.see n cR;obtain⟨fb,bc⟩:=jj eB 30 Tryz.underlying30 A.o.see n cR;have d3:wr.cell? ⟨B,3,none⟩=some (.slice oa d.length oc):=(by rw[aK A.h];rfl);have d4:wr.cell? ⟨B,4,none⟩=some G:=(by rw[aK A.h];rfl);have bA:(d.drop n).length=d.length-n:=aN;have hG:=ad (λW (h:Fr wr W)=>lE (.slice oa n oc) (d.take n) W (bc.fr h) (by have:=gg.out;rw[aA];omega));obtain⟨ol,dj⟩:∃ol,ol=d.length:=⟨_,rfl⟩;obtain⟨U,fB⟩:∃U,U=ol-n:=⟨_,rfl⟩;rw[<- dj]at b6 fb d3 bA cR c5;rw[<- dj]at R;rw[<- fB]at b6 R bA;have fC:=A.b;have j3:U<=20000000:=ω;have j4:(n:Int)<=ol:=ω;have fD:=ad bA;have j5:=ad A;clear l1 l2 l3 l4 l5 l6 cT f7 b4 ba ct aC F cl bn ck ch cj eq cf cc bm bc b3 A dj fB bA;generalize d.take n=TK,d.drop n=V at *;go_wp2;go_loopw [76,18] (λiv xv wx=>∃i:Nat,i<=U/\iv=N i/\(∀j,j<i->V.getD j 0=0)/\wx=wr) (λiv _ _=>U-(intOf iv).toNat);case atStart=>exact⟨0,ar _,rfl,λj h=>absurd h (uh j),rfl⟩
       case round=>
        obtain⟨i,hi,rfl,hz,rfl⟩:=hrel;by_cases hI:i<U
        ·have bk:i<V.length:=(by rw[fD.out];exact hI);obtain⟨b,fN,cp,hv,e1⟩:=R.cell1 Fk.u8 rfl i bk;simp only[ir]at hv;obtain⟨rfl,hJ,rfl⟩:=hv;clear hJ;have d5:=ad (cg V i 0 bk);have e2:wr.cell? ⟨b,fN+i,none⟩=some (.int .u8 ((V[i].toNat:Nat):Int)):=e1;have fS:=ad bk;obtain⟨zx,ga⟩:∃x:UInt8,x=V[i]'bk:=⟨_,rfl⟩;rw[<- ga]at e2 d5;have d6:=ad (show zx.toNat=0->zx=0 from λh=>eP.1 (by rw[h];rfl));have dE:=ad (show zx=0->zx.toNat=0 from λh=>by rw[h];rfl);clear e1 ga bk;have i1:(i:Int)<U:=ω;have i2:(0:Int)<=i:=ω;by_cases O:zx.toNat=0
         ·rw[O]at e2;have e3:wr.cell? ⟨b,fN+i,none⟩=some (.int .u8 0):=e2;have hK:=ad (d6.out O);clear e2 O d6 dE;go_wp2;go_roundw
          case rel => exact ⟨i + 1, by omega, by go_num, (fun j hj => by
            rcases mV j i with h | h;·exact hz j h
            · obtain rfl : j = i := by omega
              rw[d5.out, hK.out]), by trivial⟩
          case measure=>exact μ
         ·have ki:¬((zx.toNat:Nat):Int)=0:=ω;have hL:Hid (gj k m c n l=(2,[],[])):=(by show _=_;rw[av.out,ae];intro h;have:=pE.1 h (V[i]'fS.out) (bJ _);have h2:=d5.out;rw[cg V i 0 fS.out]at h2;rw[h2]at this;exact O (dE.out (by simpa using this)));clear O d6 dE;go_wp2;go_ret3;rw[hL.out];exact⟨_,_,rfl,Ow.nil,Ow.nil,Q⟩
        ·obtain rfl:i=U:=ω;have hM:Hid (gj k m c n l=(0,TK,z)):=(by show _=_;rw[av.out,af];rw[pE];intro x O;obtain⟨j,hj,rfl⟩:=pC.1 O;have:=hz j (by rw[<- fD.out];exact hj);rw[cg V j 0 hj]at this;rw[this];rfl);have kk:¬((i:Int)<i):=ω;have hO:=ad (hG.out wr.drew (Fr.refl wr).drew);clear hz av R;go_upto_region 20 with fail
         go_region_held3 (λw' => w'.cell? ⟨B, 3, none⟩ = some (.slice oa ol oc) ∧ w'.cell? ⟨B, 4, none⟩ = some G)
          (first | go_keep)
          ((go_at_call 66;refine hO.out.mono ?_;rintro e w6 ⟨v6,rfl,gb,ec⟩;have hR:=ec.cell d3;have hT:=ec.cell d4))
         have gc:=(Fr.refl wr).drew.trans ec;have hU:=gb.rebase (b:=w.heap.size) Q.size;have hV:=fC.fr gc;have hW:=Q.trans gc;clear gb fC hR hT d3 d4;go_wp2;go_ret3;rw[hM.out];exact⟨_,_,rfl,hU,hV,hW⟩
def Pz(o:dV)(h:ew o=true):pO o=0:=by unfold pO;rw[af h]
def P3(o:dV)(h:ew o=false):pO o=9:=by unfold pO;rw[ae (by rw[h];simp)]
def Oq(b:Z0)(h:(gG b).1≠0):gG b=((gG b).1,[],[]):=by
 unfold gG at h ⊢;unfold gj at h ⊢;simp only at h ⊢;repeat' split
 all_goals first | rfl | (simp_all;done)
theorem EJ(k m c:Nat)(l:Z0):∀(f s:Nat) (e:Z0) (d:List Nat),(fU k m c l f s e d).2.2.length<=d.length+f*(k+m)
 | 0,_,e,d=>by simp[fU]
 | f+1,s,e,d=>by
  unfold fU
  by_cases h:(fE k m c l (s*((k+m)*(c+4)))).1=0
  ·simp only[h,lF]
   refine ay (EJ k m c l f (s+1) _ _) ?_
   have o:(kX l c (s*((k+m)*(c+4))) (k+m) (s*(k+m))).length<=k+m:=by
    rw[tZ];exact ay (BP _ _) (iT (tJ _ _ _ _))
   rw[am,be f 1,dC]
   omega
  ·simp only[h,if_false];exact ar _
def Oi(k m c n:Nat)(l:Z0):(gj k m c n l).2.2.length<=l.length:=by
 by_cases d:8388608<n;·rw[Av k m c n l d];exact ar _
 ·by_cases e:16777216<aG k c n*((k+m)*(c+4));·rw[As k m c n l d e];exact ar _
  ·by_cases h:l.length<aG k c n*((k+m)*(c+4));·rw[Aq k m c n l d e h];exact ar _
   ·by_cases o:aG k c n*((k+m)*(c+4))<l.length;·rw[Ar k m c n l d e o];exact ar _
    ·have z:l.length=aG k c n*((k+m)*(c+4)):=ω;rw[Au k m c n l d e z];have A:=EJ k m c l (aG k c n) 0 [] [];have D:aG k c n*(k+m)<=aG k c n*((k+m)*(c+4)):=oj _ (Ct _ ω);simp only;split
     ·split;·simp only[gS]at A;show(fU k m c l (aG k c n) 0 [] []).2.2.length<=_;omega
      ·exact ar _
     ·exact ar _
abbrev so(b:Z0):Prop:=b.length<=6000\/((hD (an b)+hQ (an b))*(hC (an b)+4)<=1000000/\hN (an b)<=1000000/\b.length<=20000000)
def F6(v:Value)(b:Z0)(w:World)(o:ah w eB v b)(hF:so b)(R:cP w):Calls Tryz.prog 25 #[v] w λe w'=>∃hv u,e=.returned (.tuple #[hv,u,N (bi b).2.2,.int .i64 ((bi b).1:Int)])/\Ow w' w.heap.size eB u (bi b).2.1/\Fr w w'/\((bi b).1=0->∃g xv,hv=.pointer (some ⟨g,0,none⟩)/\w.heap.size<=g/\w'.heap[g]?=some (of (jz (an b)) (hP (an b)) (iA (an b)) (hD (an b)) (hQ (an b)) (hC (an b)) (hN (an b)) xv)):=by
 have hl:b.length<=20000000:=ω
 have cu:=ad (show(iQ b).length<=6000\/((hD (an b)+hQ (an b))*(hC (an b)+4)<=1000000/\hN (an b)<=1000000/\(iQ b).length<=20000000)from by rw[vy];omega);clear hF;have HS:=ad o;obtain⟨a0,c0,rfl,dE,c1,_⟩:=o.shape;unfold maxLen at c1;by_cases m:b.length<42;·have z:=ad (Iv _ b w o m);have U:=ad (I8 b m);clear o R m;go_in;go_wp2_with fail;refine z.out.mono ?_;rintro e G ⟨rfl,D⟩;go_wp2_with fail;refine bF (v:=.tuple #[.pointer none,.slice none 0 0,.int .i64 0,.int .i64 1]) (by simp[results,Tryz.results25,go_sem, *]) rfl ?_;rw[U.out];exact⟨_,_,rfl,Ow.nil,D,λh=>by cases h⟩
 ·have z:=ad (Iw _ b w o ω R);by_cases d:gm b=true
  ·rw[af d]at z;have av:=Sl b m;have ab:=ad (λW u (h:ah W eB u (an b))=>Sj u (an b) W h av);by_cases F:1<hX (an b)
   ·have U:=ad (IB b m d F);have a1:=ad F;have a2:=ad d;clear o R m F av d;go_in;go_wp2_with fail;refine z.out.mono ?_;rintro e G ⟨u,rfl,I,_,D⟩;have J:=ad (ab.out G u (I a2.out));clear I z ab;go_wp2_with fail;refine J.out.mono ?_;rintro e L ⟨a3,M⟩;have he:e=.returned (.tuple #[.pointer none,.int .i64 2]):=by
     rcases M with h | h;·exact h.2
     ·have:=a1.out;omega
    subst he;clear M J;have O:=D.trans a3;go_wp2_with fail;refine bF (v:=.tuple #[.pointer none,.slice none 0 0,.int .i64 0,.int .i64 2]) (by simp[results,Tryz.results25,go_sem, *]) rfl ?_;rw[U.out];exact⟨_,_,rfl,Ow.nil,O,λh=>by cases h⟩
   ·cases Q:ew (dt (an b))
    ·have U:=ad (IA b m d F Q);have a1:=ad F;have a2:=ad d;have aC:=ad (P3 _ Q);clear o R m F av d Q;go_in;go_wp2_with fail;refine z.out.mono ?_;rintro e G ⟨u,rfl,I,_,D⟩;have J:=ad (ab.out G u (I a2.out));clear I z ab;go_wp2_with fail;refine J.out.mono ?_;rintro e L ⟨a3,M⟩;obtain⟨g,rfl,b3,V⟩:∃g,e=.returned (.tuple #[.pointer (some ⟨g,0,none⟩),.int .i64 (pO (dt (an b)))])/\G.heap.size<=g/\True:=by
      rcases M with h | h;·exact absurd h.1 a1.out
      ·obtain⟨_,g,X,Y,_⟩:=h;exact⟨g,X,Y,trivial⟩
     rw[aC.out];clear M J;have O:=D.trans a3;go_wp2_with fail;refine bF (v:=.tuple #[.pointer none,.slice none 0 0,.int .i64 0,.int .i64 9]) (by simp[results,Tryz.results25,go_sem, *]) rfl ?_;rw[U.out];exact⟨_,_,rfl,Ow.nil,O,λh=>by cases h⟩
    ·have c4:=AG _ Q;have aC:=ad (Pz _ Q);have a1:=ad F;have a2:=ad d;obtain⟨o1,o2,o3,o4,o5,o6,o7,o8⟩:=c4;have cA:=nH ((an b).getD 7 0);have cB:=nH ((an b).getD 8 0);have cE:hN (an b)<4294967296:=(by have:=rQ ((an b).drop 13 |>.take 4);rw[aA,aN,av]at this;exact this);have bb:=ad (λW u (h:ah W eB u (iQ b)) (Y:Fr w W)=>Wv (hD (an b)) (hQ (an b)) (hC (an b)) (hN (an b)) u (iQ b) W h o5 o6 o7 o8 ω cu.out (R.fr Y));have b8:Hid (gG b=gj (hD (an b)) (hQ (an b)) (hC (an b)) (hN (an b)) (iQ b)):=rfl;rw[<- b8.out]at bb;obtain⟨Z,hK⟩:∃K,K=b.length-21:=⟨_,rfl⟩;obtain⟨fa,fc,bA,bd⟩:=qJ eB 30 Tryz.underlying30 o 21 Z ω ω;have bB:(b.take Z).drop 21=iQ b:=(by unfold iQ;rw[ru,hK];congr 1);rw[bB]at bd;have dT:∀W,(Instr.slice 30 (.slice a0 b.length c0) (some (.int .i64 21)) (some (.int .i64 (Z:Int))) none).run Tryz.prog W=.ok (.slice fa (Z-21) fc) W:=bA;have hw:IntKind.i64.wrap ((b.length:Int)-21)=(Z:Int):=(by rw[ax _ ω];omega);have bf:=ad (λW (h:Fr w W)=>Ic _ b W (o.fr h) ω);have HEq:=ad (λW v1 v2 (X:ah W eB v1 (b.take 21)) (Y:ah W eB v2 (b.drop (b.length-21)))=>Co v1 v2 _ _ W X Y);have bk:=ad (λh=>I9 b m d F Q h);have bm:=ad (λh=>yE b m d F Q h);have ef:(21:Int)<=Z:=ω;have el:(Z:Int)<=b.length:=ω;have bn:=ad (Oq b);have cL:Hid ((gG b).2.2.length<=20000000):=(by show _<=_;have X:=Oi (hD (an b)) (hQ (an b)) (hC (an b)) (hN (an b)) (iQ b);rw[vy]at X;rw[b8.out];omega);clear o R m F av d Q o1 o2 o3 o4 o5 o6 o7 o8 cA cB cE bA bB hK;generalize hN (an b)=fN,hC (an b)=fC,hQ (an b)=fQ,hD (an b)=fD,iA (an b)=fB,hP (an b)=fP,jz (an b)=fS at *;go_in;go_wp2_with fail;refine z.out.mono ?_;rintro e G ⟨u,rfl,I,_,D⟩;have J:=ad (ab.out G u (I a2.out));clear I z ab;go_wp2_with fail;refine J.out.mono ?_;rintro e L ⟨a3,M⟩;obtain⟨g,rfl,b3,V⟩:∃g,e=.returned (.tuple #[.pointer (some ⟨g,0,none⟩),.int .i64 (pO (dt (an b)))])/\G.heap.size<=g/\L.heap[g]?=some (of fS fP fB fD fQ fC fN (.int .u8 (hX (an b):Int))):=by
      rcases M with h | h;·exact absurd h.1 a1.out
      ·obtain⟨_,g,X,Y,h3⟩:=h;exact⟨g,X,Y,h3⟩
     rw[aC.out];clear M J;have O:=D.trans a3;have x3:=ag V 3 rfl;have x4:=ag V 4 rfl;have x5:=ag V 5 rfl;have x6:=ag V 6 rfl;have cb:=ad (bb.out L.drew _ (bd.fr (O.trans (Fr.refl L).drew)) (O.trans (Fr.refl L).drew));have cT:=D.size;go_upto_region 7 with fail
     go_region_held3 (λw' => w'.cell? ⟨g, 3, none⟩ = some (N fD) ∧ w'.cell? ⟨g, 4, none⟩ = some (N fQ) ∧ w'.cell? ⟨g, 5, none⟩ = some (N fC) ∧ w'.cell? ⟨g, 6, none⟩ = some (N fN))
      (first | go_keep)
      ((go_at_call 55;refine cb.out.mono ?_;rintro e w3 ⟨u3,eq,rfl,bs,bu,aa⟩;have da:=aa.cell x3;have dc:=aa.cell x4;have di:=aa.cell x5;have dj:=aa.cell x6))
     have a6:Fr w w3:=O.trans ((Fr.refl L).drew.trans aa);have bv:=aa.heap V;clear da dc di dj x3 x4 x5 x6 bb cb bd V aa;by_cases ac:(gG b).1=0
     ·have aj:=ad (bm.out ac);obtain⟨ba,bc,rfl⟩:=bu.shape';have ch:=bs.rebase (b:=w.heap.size) (show w.heap.size<=L.drew.heap.size from O.size);have cj:=ad (bf.out w3 a6);have ev:=cL.out;rw[ac];clear bk bm bn bs bu ac bf;generalize (gG b).2.1=RB,(gG b).2.2.length=bl at *;have e0:=ax ((bl:Int)+1) ω;go_wp2_with fail;refine cj.out.mono ?_;rintro e w4 ⟨v1,v2,rfl,ck,cl,a7⟩;have ds:=ad (HEq.out w4 v1 v2 ck cl);have dv:=a6.trans a7;have d0:=a7.heap bv;have d1:=ch.fr a7;clear ck cl cj HEq bv ch a6 a7;go_wp2_with fail;refine ds.out.mono ?_;rintro e w5 ⟨rfl,bx⟩;have cm:=dv.trans bx;have cn:=bx.heap d0;have cp:=d1.fr bx;have cq:w.heap.size<=g:=ay cT b3;by_cases ap:b.take 21=b.drop (b.length-21);·have b0:Hid (bi b=(0,RB,bl)):=ad (by rw[aj.out,af ap];rfl);rw[bp ap];clear ap aj;go_wp2_with fail;refine bF (v:=.tuple #[.pointer (some ⟨g,0,none⟩),u3,N bl,.int .i64 0]) (by simp[results,Tryz.results25,go_sem, *]) rfl ?_;rw[b0.out];exact⟨_,_,rfl,cp,cm,λ_=>⟨g,_,rfl,cq,cn⟩⟩
      ·have b0:Hid (bi b=(0,RB,bl+1)):=ad (by rw[aj.out,ae ap]);rw[br ap];clear ap aj;go_wp2_with fail;refine bF (v:=.tuple #[.pointer (some ⟨g,0,none⟩),u3,.int .i64 ((bl:Int)+1),.int .i64 0]) (by simp[results,Tryz.results25,go_sem, *]) rfl ?_;rw[b0.out];exact⟨_,_,rfl,cp,cm,λ_=>⟨g,_,rfl,cq,cn⟩⟩
     ·have aj:=ad (bk.out ac);have d2:¬(((gG b).1:Nat):Int)=0:=ω;have d3:=ad (bn.out ac);rw[d3.out]at bs;clear bk bm bn bu ac bf HEq bv;generalize (gG b).1=x at *;go_wp2_with fail;refine bF (v:=.tuple #[.pointer none,.slice none 0 0,.int .i64 0,.int .i64 (x:Int)]) (by simp[results,Tryz.results25,go_sem, *]) rfl ?_;rw[aj.out];exact⟨_,_,rfl,Ow.nil,a6,λh=>absurd h (by simpa using d2)⟩
  ·have b1:gm b=false:=(by simpa using d);rw[ae d]at z;have U:=ad (I7 b m b1);have d4:=ad b1;clear o R m d b1;go_in;go_wp2_with fail;refine z.out.mono ?_;rintro e G ⟨u,rfl,_,cs,D⟩;obtain rfl:=cs d4.out;clear cs;go_wp2_with fail;refine bF (v:=.tuple #[.pointer none,.slice none 0 0,.int .i64 0,.int .i64 5]) (by simp[results,Tryz.results25,go_sem, *]) rfl ?_;rw[U.out];exact⟨_,_,rfl,Ow.nil,D,λh=>by cases h⟩
def Oh(k m c n:Nat)(l:Z0)(D:1<=k)(F:1<=c)(h:(gj k m c n l).1=0):¬8388608<n/\¬16777216<aG k c n*((k+m)*(c+4))/\l.length=aG k c n*((k+m)*(c+4))/\(gj k m c n l).2.1.length=n:=by
 by_cases d:8388608<n;·rw[Av k m c n l d]at h;cases h
 ·by_cases e:16777216<aG k c n*((k+m)*(c+4));·rw[As k m c n l d e]at h;cases h
  ·by_cases G:l.length<aG k c n*((k+m)*(c+4));·rw[Aq k m c n l d e G]at h;cases h
   ·by_cases I:aG k c n*((k+m)*(c+4))<l.length;·rw[Ar k m c n l d e I]at h;cases h
    ·have z:l.length=aG k c n*((k+m)*(c+4)):=ω;refine⟨d,e,z,?_⟩;rw[Au k m c n l d e z]at h ⊢;simp only at h ⊢;have K:1*1<=k*c:=bH D F;have L:n<=aG k c n*(k*c):=(by have:=λh=>(tf k c n ω (aG k c n)).2 h;omega);by_cases o:(fU k m c l (aG k c n) 0 [] []).1=0
     ·have J:=Aw k m c l (aG k c n) 0 [] [] (by rw[iH];omega) o;rw[af o]at h ⊢;by_cases A:((fU k m c l (aG k c n) 0 [] []).2.1.drop n).all (· == 0)=true;·rw[af A];show((fU k m c l (aG k c n) 0 [] []).2.1.take n).length=n;rw[aA,J,gS];omega
      ·rw[ae A]at h;cases h
     ·rw[ae o]at h;exact absurd h o
def BL(b:Z0)(h:(bi b).1=0):ew (dt (an b))=true/\(bi b).2.1.length=hN (an b)/\hN (an b)<=b.length/\aG (hD (an b)) (hC (an b)) (hN (an b))*((hD (an b)+hQ (an b))*(hC (an b)+4))<=16777216:=by
 by_cases d:b.length<42;·rw[I8 b d]at h;cases h
 ·cases e:gm b;·rw[I7 b d e]at h;cases h
  ·by_cases m:1<hX (an b);·rw[IB b d e m]at h;cases h
   ·cases o:ew (dt (an b));·rw[IA b d e m o]at h;cases h
    ·by_cases z:(gG b).1=0;·rw[yE b d e m o z];obtain⟨I,J,K,L,A,M,D,O⟩:=AG _ o;have F:=Oh (hD (an b)) (hQ (an b)) (hC (an b)) (hN (an b)) (iQ b) A D z;obtain⟨Q,R,U,G⟩:=F;have V:1*1<=hD (an b)*hC (an b):=bH A D;have X:hN (an b)<=aG (hD (an b)) (hC (an b)) (hN (an b))*(hD (an b)*hC (an b)):=(by have:=λh=>(tf (hD (an b)) (hC (an b)) (hN (an b)) ω (aG (hD (an b)) (hC (an b)) (hN (an b)))).2 h;omega);have Y:aG (hD (an b)) (hC (an b)) (hN (an b))*(hD (an b)*hC (an b))<=aG (hD (an b)) (hC (an b)) (hN (an b))*((hD (an b)+hQ (an b))*(hC (an b)+4)):=oj _ (bH ω ω);have Z:=vy b;exact⟨rfl,G,ω,ω⟩
     ·rw[I9 b d e m o z]at h;exact absurd h z
def nW(b:Z0):Nat × Z0 × Nat:=
 if(bi b).1=0 then(0,bO (jz (an b)) (hP (an b)) (iA (an b)) (hD (an b)) (hQ (an b)) (hC (an b)) (bi b).2.1,(bi b).2.2)else((bi b).1,[],0)
def J3(v:Value)(b:Z0)(w:World)(m:ah w eB v b)(hF:so b)(o:cP w):Calls Tryz.prog 11 #[v] w λe w'=>∃u,e=.returned (.tuple #[u,N (nW b).2.2,.int .i64 ((nW b).1:Int)])/\Ow w' w.heap.size eB u (nW b).2.1/\Fr w w':=by
 have D:=ad (F6 v b w m hF o);by_cases d:(bi b).1=0
 ·obtain⟨R,F,a4,U⟩:=BL b d;obtain⟨o1,V,o3,o4,X,o6,Y,J⟩:=AG _ R;have Z:=ad (λu W (h:Fr w W) (h2:ah W eB u (bi b).2.1)=>J5 (hD (an b)) (hQ (an b)) (hC (an b)) u (bi b).2.1 W h2 X ω Y J ω (by rw[F];exact U) (o.fr h));have aa:=pV (bi b).2.1 (hD (an b)) (hQ (an b)) (hC (an b)) (aG (hD (an b)) (hC (an b)) (bi b).2.1.length);have HA:=ad (λg K u W (h:Fr w W) (hg:W.heap[g]?=some (of (jz (an b)) (hP (an b)) (iA (an b)) (hD (an b)) (hQ (an b)) (hC (an b)) (hN (an b)) K)) (h3:ah W eB u (dJ (bi b).2.1 (hD (an b)) (hQ (an b)) (hC (an b)) (aG (hD (an b)) (hC (an b)) (bi b).2.1.length)))=>JP g (jz (an b)) (iA (an b)) (hD (an b)) (hQ (an b)) (hC (an b)) (hN (an b)) (hP (an b)) u _ W hg h3 (o.fr h) V ω ω ω J ω (by rw[aa,F];omega));have L:Hid (nW b=(0,au (cz (jz (an b)) (hP (an b)) (iA (an b)) (hD (an b)) (hQ (an b)) (hC (an b)) (hN (an b)))++dJ (bi b).2.1 (hD (an b)) (hQ (an b)) (hC (an b)) (aG (hD (an b)) (hC (an b)) (bi b).2.1.length)++au (cz (jz (an b)) (hP (an b)) (iA (an b)) (hD (an b)) (hQ (an b)) (hC (an b)) (hN (an b))),(bi b).2.2)):=(by show _=_;unfold nW bO;rw[af d,F]);have H0:=ad d;rw[d]at D;obtain⟨a0,bf,rfl,_⟩:=m.shape;clear m o hF R F a4 U o1 V o3 o4 X o6 Y J aa d;generalize hN (an b)=fN,hC (an b)=fC,hQ (an b)=fQ,hD (an b)=fD,iA (an b)=fB,hP (an b)=fP,jz (an b)=fS at *;generalize (bi b).2.2=nb,(bi b).2.1=RB,dJ (bi b).2.1 fD fQ fC (aG fD fC (bi b).2.1.length)=LY,au (cz fS fP fB fD fQ fC fN)++dJ (bi b).2.1 fD fQ fC (aG fD fC (bi b).2.1.length)++au (cz fS fP fB fD fQ fC fN)=AR at *;go_in;go_wp2_with fail;refine D.out.mono ?_;rintro e G ⟨hv,u,rfl,M,I,aj⟩;obtain⟨g,K,rfl,b3,z⟩:=aj trivial;clear aj D;have x3:=ag z 3 rfl;have x4:=ag z 4 rfl;have x5:=ag z 5 rfl;have a1:=ad (Z.out u G.drew (I.trans (Fr.refl G).drew) M.see.drew);obtain⟨ua,uc,rfl⟩:=M.shape';clear M Z;go_wp2_with fail
  go_region_held3 (λw' => w'.cell? ⟨g, 3, none⟩ = some (N fD) ∧ w'.cell? ⟨g, 4, none⟩ = some (N fQ) ∧ w'.cell? ⟨g, 5, none⟩ = some (N fC))
   (first | go_keep)
   ((go_at_call 20;refine a1.out.mono ?_;rintro e w2 ⟨v2,rfl,O,A⟩;have bn:=A.cell x3;have bs:=A.cell x4;have bu:=A.cell x5))
  have Q:=I.trans ((Fr.refl G).drew.trans A);have a2:=ad (HA.out g K v2 w2 Q (A.heap z) O.see);obtain⟨la,lc,rfl⟩:=O.shape';clear bn bs bu x3 x4 x5 a1 HA z O;go_wp2_with fail;refine a2.out.mono ?_;rintro e w3 ⟨v3,rfl,a3,bv⟩;have bx:=a3.rebase (b:=w.heap.size) Q.size;have b0:=Q.trans bv;clear a3 a2;go_wp2;go_ret3;rw[L.out];exact⟨_,rfl,bx,b0⟩
 ·have L:Hid (nW b=((bi b).1,[],0)):=(by show _=_;unfold nW;rw[ae d]);have b9:¬(((bi b).1:Nat):Int)=0:=ω;obtain⟨a0,bf,rfl,_⟩:=m.shape;clear m o hF d;generalize (bi b).1=x at *;go_in;go_wp2_with fail;refine D.out.mono ?_;rintro e G ⟨hv,u,rfl,_,I,_⟩;go_wp2;go_ret3;rw[L.out];exact⟨_,rfl,Ow.nil,I⟩
