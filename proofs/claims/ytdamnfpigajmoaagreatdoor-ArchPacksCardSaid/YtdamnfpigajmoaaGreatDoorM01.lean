/- Parts of the proof of ArchPacks: Elt W15 W15b W15c W17 EltJ EltQ. -/
import Derived.Test.YtdamnfpigajmoaaGreatDoorChecked
import Derived.Test.YtdamnfpigajmoaaGreatDoorM00
import Derived.Test.YtdamnfpigajmoaaGreatDoorM07
set_option linter.unusedVariables false
set_option linter.unusedSectionVars false
set_option linter.unusedSimpArgs false
set_option maxHeartbeats 8000000
set_option maxRecDepth 100000
namespace Go.Fk
abbrev ar:=@Go.IntWalk.i64_in
abbrev fZ:=@List.drop_length
abbrev lu:=@List.mem_singleton
abbrev sf:=@Array.getElem?_toList
end Go.Fk
namespace Go.Fk
open Go.RowKit
theorem ae{w:World}{g:Nat}{d:Array Value}{T:TypeId}{p:Nat × Nat}{v:Value}(h:w.heap[g]? = some (.cells d T p))(i:Nat)(e:d.toList[i]? = some v):w.cell? ⟨g,i,none⟩=some v:=by rw [aL h,<- sf];exact e
end Go.Fk
namespace Go.Proofs.YtdamnfpigajmoaaGreatDoor
open Go.RowKit Go.Fk
def eB:al Tryz.prog UInt8:=⟨5,1,1,0,.int .u8 0,fun c=>[u8 c],by kernel_rfl,by decide,by decide,by simp [Value.cells],fun _=>rfl,by intro x u hu;simp at hu;subst hu;rfl⟩
def eS:al Tryz.prog (List UInt8):=⟨9,1,16,[],.string ⟨#[]⟩,fun c=>[S c],by kernel_rfl,by decide,by decide,by simp [Value.cells],fun _=>rfl,by intro x u hu;simp at hu;subst hu;rfl⟩
structure am where
 time:UInt64
 level:UInt8
 source:List UInt8
 text:List UInt8
 deriving DecidableEq
def am.cells(r:am):List Value:=[.int .u64 r.time.toNat,u8 r.level,S r.source,S r.text]
def eR:al Tryz.prog am:=⟨37,4,48,⟨0,0,[],[]⟩,.agg #[.int .u64 0,.int .u8 0,.string ⟨#[]⟩,.string ⟨#[]⟩],am.cells,by kernel_rfl,by decide,by decide,by simp [Value.cells,am.cells],fun _=>rfl,by intro x u hu;simp only [am.cells,fy,List.not_mem_nil,or_false]at hu;rcases hu with rfl | rfl | rfl | rfl <;> rfl⟩
theorem uC(c:UInt8):(c.toNat:Int)<=255/\(0:Int)<=c.toNat:=by have:=c.toNat_lt;omega
theorem BN (c : UInt8) (w : World) (h : cd c = true) :
    Calls Tryz.prog 226 #[u8 c] w fun e w'=>e=.returned (.tuple #[u8 (sm c),.bool true])/\w=w':=by
  have m:=uC c;rw [oW]at h;have d:=tf c;have H:Hid (((sm c).toNat:Int)=if 65<=c.toNat/\c.toNat<=90 then(c.toNat:Int)+32 else c.toNat):=(by show _=_;rw [d];split <;> rfl);clear d;obtain⟨o,q⟩:=m;go_enter Tryz.func226, Tryz.ntmps226;go_wp2_with fail;all_goals(first | omega | skip)
  all_goals go_ret2
  all_goals refine⟨?_,rfl⟩
  all_goals unfold u8;rw [H.out]
  all_goals split
  all_goals first | rfl | omega
theorem BO(c:UInt8)(w:World)(h:cd c=false) :
  Calls Tryz.prog 226 #[u8 c] w fun e w'=>e=.returned (.tuple #[.int .u8 0,.bool false])/\w=w':=by
 have d:=uC c;rw [Gc]at h;obtain⟨m,o⟩:=d;go_enter Tryz.func226, Tryz.ntmps226;go_wp2_with fail;all_goals(first | omega | skip)
 all_goals go_ret2
 all_goals exact⟨rfl,rfl⟩
theorem DG (c : UInt8) (w : World) :
    Calls Tryz.prog 237 #[u8 c] w fun e w'=>e=.returned (u8 (ko c))/\w=w':=by
  have d:=uC c;obtain⟨m,o⟩:=d;have H:Hid (((ko c).toNat:Int)=if 65<=c.toNat/\c.toNat<=90 then(c.toNat:Int)+32 else if(97<=c.toNat/\c.toNat<=122)\/(48<=c.toNat/\c.toNat<=57)then(c.toNat:Int)else 0):=by
    show _=_;unfold ko;split;· next h=>rw [oW]at h;rw [tf];split <;> first | omega | (split <;> omega)
    · next h=>rw [oW]at h;have z:(0:UInt8).toNat=0:=rfl;rw [z];split <;> first | omega | (split <;> omega)
  go_enter Tryz.func237, Tryz.ntmps237;go_wp2_with fail;all_goals go_ret
  all_goals refine⟨?_,rfl⟩
  all_goals unfold u8;rw [H.out]
  all_goals split
  all_goals first | omega | rfl | (split <;> first | omega | rfl)
def LX:Option (List UInt8)->Value
 | some r=>.tuple #[S r,.bool true]
 | none=>.tuple #[S [],.bool false]
theorem Ep(v:Value)(d:List (List UInt8))(s:List UInt8)(w:World)(o:af w eS v d) :
  Calls Tryz.prog 127 #[v,S s] w fun e w'=>e=.returned (.bool (decide (s∈d)))/\w=w':=by
 obtain⟨a,G,rfl,I,A,J⟩:=o.shape;unfold maxLen at A;go_enter Tryz.func127, Tryz.ntmps127;go_wp2_with fail;go_loop [5] (fun i=>∃ k:Nat,k<=d.length/\i=N k/\Hid (s ∉ d.take k)) (fun i=>d.length - (intOf i).toNat);case atStart=>exact⟨0,ap _,rfl,ad (by simp)⟩
 case round=>
  obtain⟨k,K,rfl,q⟩:=hrel;by_cases h:k<d.length
  · obtain⟨b,L,M,y,_,_,z⟩:=o.at1 S rfl (by intro e;simp [e]at h);simp only [ed]at y;obtain⟨rfl,_,rfl⟩:=y;have O:=z k h;clear z;by_cases m:d[k]=s;· have D:s∈d:=m ▸ aH h;have F:(d[k] == s)=true:=(by simp [m]);go_wp2_with fail;go_ret;exact⟨rfl,rfl⟩
    · have F:(d[k] == s)=false:=(by simp [m]);go_wp2_with fail;go_round;case rel=>exact⟨k+1,by omega,by go_num,ad (by rw [cL h];simp only [ju,lu,not_or];exact⟨q.out,fun e=>m e.symm⟩)⟩
      case measure=>simp [intOf];omega
  · have D:s ∉ d:=(by have:=q.out;rwa [eo (by omega)]at this);go_wp2_with fail;go_ret;exact⟨rfl,rfl⟩
theorem zy{f:FuncId}{d:Func}{c:Code}(e:Tryz.prog.funcs[f]? = some d)(h:(d.name == "runtime.NumGoroutine")=false)(m:d.body=some c)(args:Array Value)(w:World):(callFunc f args).run Tryz.prog w=.ok (.enter f args) w:=by
 have o:d.name≠ "runtime.NumGoroutine":=by simpa using h
 simp [callFunc,e,o,m,mark]
structure rN (k:Nat) (caps:Array Value) (I:List (List UInt8)->(Nat->Prop)->World->Prop):Prop where
 loc:∀ {ws F G w w'},I ws F w->ak G w w'->(∀ b,F b->¬G b)->I ws F w'
 bd:∀ {ws F w},I ws F w->∀ b,F b->b<w.heap.size
 call : ∀ {ws F w} (x : List UInt8), I ws F w → x.length ≤ 24 → ws.length ≤ 2000000000 → Calls Tryz.prog k (#[S x] ++ caps) w fun e w' => e = .returned (.tuple #[]) ∧
  ∃ F',I (ws++[x]) F' w'/\ak F w w'/\(∀ b,F' b->F b\/w.heap.size<=b)
def SI(I:List (List UInt8)->(Nat->Prop)->World->Prop)(B:Nat)(e:Value)(h:List UInt8)(m:List (List UInt8))(F:Nat->Prop)(w:World):Prop:=
 w.heap[B]? = some (.cells #[e] 235 (0,0)) /\
 (∃ d,w.heap[B+1]? = some (.cells #[d] 29 (0,0))/\Ow w (B+2) eB d h/\(∀ b,d.ownBlock=some b->¬F b)) /\
 I m F w/\¬F B/\¬F (B+1)
def jS(d:List UInt8):List (List UInt8):=if d=[]then []else [d.take 24]
theorem wR{k:Nat}{R:Array Value}{I:List (List UInt8)->(Nat->Prop)->World->Prop}(L:rN k R I)(bm:∀ args w,(callFunc k args).run Tryz.prog w=.ok (.enter k args) w)(B:Nat)(d:List UInt8)(D:List (List UInt8))(F:Nat->Prop)(w:World)
  (h:SI I B (.func (.func k) #[] R) d D F w) (hlen:D.length<=2000000000) (hr:d.length<=2147483648) :
  Calls Tryz.prog 225 #[.pointer (some ⟨B+1,0,none⟩),.pointer (some ⟨B,0,none⟩)] w fun e w'=>e=.returned (.tuple #[]) /\
   ∃ G,SI I B (.func (.func k) #[] R) [] (D++jS d) G w'/\ak (fun b=>F b\/b=B+1) w w'/\(∀ b,G b->F b\/w.heap.size<=b):=by
 obtain⟨T,⟨rv,M,z,U⟩,Z,V,J⟩:=h;have c0:=ae T 0 rfl;have c1:=ae M 0 rfl;have f1:w.frozen? ⟨B+1,0,none⟩=false:=az M 0;have H1:=ad T;have K:=ad M;clear T M;by_cases X:d=[]
 · subst X;obtain⟨a,y,rfl⟩:=z.shape';have h0:((0:Int)<([]:List UInt8).length)=False:=(by simp);go_enter Tryz.func225, Tryz.ntmps225;go_wp2_with fail;go_end0;have q:=aw w ⟨B+1,0,none⟩ (.slice a 0 y);have a3:B+1<w.heap.size:=(aR.1 K.out).1;have a4:=z.ne_cells K.out (by decide);refine⟨rfl,F,⟨q.heap H1.out (by simp),⟨_,by rw [aB K.out];rfl,?_,U⟩,?_,V,J⟩,?_,fun b o=>.inl o⟩;· exact z.chg q (by intro b o e;simp at e;subst e;exact a4 o)
   · rw [show D++jS []=D by simp [jS]];exact L.loc Z q (by intro b o e;simp at e;subst e;exact J o)
   · exact q.mono (fun b _ h=>.inr h)
 · obtain⟨g,y,rfl,bz,a5,b0,a6⟩:=z.atHead X;unfold maxLen at a6;have hp:0<d.length:=(by cases d <;> simp_all);have a7:∃ m:Nat,(d.take 24).length=m/\(if(24:Int)<d.length then(24:Int)else d.length)=m/\m<=y/\m<=d.length:=(by refine⟨min 24 d.length,by simp,?_,by omega,by omega⟩;split <;> omega);obtain⟨m,ab,hm,b3,ba⟩:=a7;have b4:(m:Int)<=y:=(by omega);have ac:d.take m=d.take 24:=(by rw [<- ab,aV,<- List.take_eq_take_min]);have aj:af w eB (.slice (some ⟨g,0,none⟩) m y) (d.take 24):=(by rw [<- ac];exact z.see.take ba);have bb:=oH eB w.drew 29 9 Tryz.underlying29 Tryz.underlying5 Tryz.underlying9 rfl rfl aj.drew;have HX:Hid ((d.take 24).length<=24):=(by show _<=_;simp;omega);clear ac ab aj;generalize hx:d.take 24=x at bb HX;have bc:=ad hx;clear hx;go_enter Tryz.func225, Tryz.ntmps225;go_upto_region 1 with fail;go_still_tail 7,(by kernel_rfl);change wpList _ _ _ _ _ w.drew;go_wp2_with fail;refine(L.call x (L.loc Z (zE (fun _=>False) w 1) (fun _ _ h=>h)) HX.out hlen).mono ?_;rintro e A ⟨rfl,G,hI,hc,hF⟩;have O:ak F w A:=(zE F w 1).trans hc (fun _ _ h=>h);have b5:w.heap.size<=A.heap.size:=hc.size;have Y:Hid (A.heap[B+1]? = some (.cells #[.slice (some ⟨g,0,none⟩) d.length y] 29 (0,0))):=O.heap K.out J;have d1:A.cell? ⟨B+1,0,none⟩=some (.slice (some ⟨g,0,none⟩) d.length y):=(by rw [aL Y.out];rfl);have e1:A.frozen? ⟨B+1,0,none⟩=false:=az Y.out 0;have bd:=ad hI;clear hI;go_wp2_with fail;go_end0;have a3:B+1<w.heap.size:=(aR.1 K.out).1;have Q:∀ b,b<w.heap.size->¬F b->¬G b:=by
    intro b o hn h;rcases hF b h with h | h;· exact hn h
    · have:(w.drewN 1).heap.size=w.heap.size:=rfl;omega
   have q:=aw A ⟨B+1,0,none⟩ (.slice (some ⟨g,0,none⟩) 0 y);refine⟨rfl,G,⟨?_,⟨_,by rw [aB Y.out];rfl,?_,?_⟩,?_,Q _ (by omega) V,Q _ (by omega) J⟩,?_,fun b o=>(hF b o)⟩;· exact q.heap (O.heap H1.out V) (by simp)
   · have h8:=(z.chg O (by intro b o;exact U b o)).take (j:=0) (ap _);exact(h8.chg q (by intro b o e;simp only [Value.ownBlock,iS]at o;simp at e;omega))
   · intro b o;simp only [Value.ownBlock,iS]at o;subst o;exact Q _ a5 (U _ rfl)
   · unfold jS;rw [ah X,bc.out];exact L.loc bd.out q (by intro b o e;simp at e;subst e;exact Q _ (by omega) J o)
   · exact(O.mono (fun b _ h=>.inl h)).trans q (fun b _ h=>.inr h)
theorem xQ(d:List UInt8):jS (d.map sm)=if d=[]then []else [(d.map sm).take 24]:=by
 unfold jS;cases d <;> simp
theorem BK(d:List UInt8):fA d []=jS (d.map sm):=by rw [xQ,fA]
theorem BJ(d s:List UInt8)(i:Nat)(h:i<s.length)(e:cd s[i]=true):fA d (s.drop i)=fA (d++[s[i]]) (s.drop (i+1)):=by
 rw [cM h,fA,ai e]
theorem BI(d s:List UInt8)(i:Nat)(h:i<s.length)(e:cd s[i]=false):fA d (s.drop i)=jS (d.map sm)++fA [] (s.drop (i+1)):=by
 rw [cM h,fA,e,xQ];rfl
theorem DK(d:List UInt8):(jS d).length<=1:=by unfold jS;split <;> simp
theorem xC {k : Nat} {T : Array Value} {I : List (List UInt8) → (Nat → Prop) → World → Prop} (z : rN k T I) (a2 : ∀ args w, (callFunc k args).run Tryz.prog w = .ok (.enter k args) w) (s : List UInt8) (A : List (List UInt8)) (F : Nat → Prop) (w : World)
    (h:I A F w) (hlen:A.length+s.length<=2000000000) :
    Calls Tryz.prog 160 #[S s,.func (.func k) #[] T] w fun e w'=>e=.returned (.tuple #[]) /\
      ∃ m,I (A++dS s) m w'/\ak F w w'/\(∀ b,m b->F b\/w.heap.size<=b):=by
  have bz:∀ (fn:Fn) (first G:Array Value) (w:World),(Instr.makeFunc fn first G).run Tryz.prog w=.ok (.func fn first G) w:=fun _ _ _ _=>rfl;have a4:=z.bd h;go_enter Tryz.func160, Tryz.ntmps160;go_wp2_with fail
  go_loopw [12] (fun U wr => ∃ (i : Nat) (o : List UInt8) (q : List (List UInt8)) (m : Nat → Prop), i ≤ s.length ∧ U = N i ∧ SI I w.heap.size (.func (.func k) #[] T) (o.map sm) q m wr ∧
      Hid (A ++ dS s = q ++ fA o (s.drop i)) ∧ ak F w wr ∧ (∀ b, m b → F b ∨ w.heap.size ≤ b) ∧ q.length ≤ A.length + i ∧ o.length ≤ i)
    (fun U _=>s.length - (intOf U).toNat)
  case atStart=>
    refine⟨0,[],A,F,ap _,rfl,⟨?_,⟨.slice none 0 0,?_,Ow.nil,by intro b d;cases d⟩,?_,?_,?_⟩,ad rfl,?_,fun b d=>.inl d,by omega,by simp⟩;· rw [gz _ _ _ (by simp),au _ _ _ rfl]
    · rw [au _ _ _ (by simp)]
    · exact z.loc h ((((Fr.refl w).alloc _).alloc _).chg (fun _=>False)) (fun _ _ h=>h)
    · intro d;have:=a4 _ d;omega
    · intro d;have:=a4 _ d;omega
    · exact(((Fr.refl w).alloc _).alloc _).chg F
  case round=>
    obtain⟨i,o,q,m,hi,rfl,a5,V,J,hF,b1,b2⟩:=hrel;have X:=ad a5;clear a5;by_cases a6:i<s.length
    · cases M:cd s[i]with
      | true=>
        have Y:=ad (BJ o s i a6 M);obtain⟨h1,⟨Z,h2,O,h4⟩,h5,h6,h7⟩:=X.out;have c1:=ae h2 0 rfl;have H1:=ad h1;have H2:=ad h2;clear h1 h2;go_wp2_with fail;refine(BN s[i] _ M).mono ?_;rintro e w' ⟨rfl,rfl⟩;go_wp2_with (at_builtin;refine aM eB rfl (.tmp 23) (.tmp 25) 29 rfl Tryz.underlying29 (w.heap.size+2) rfl O [sm s[i]] _ _ _ rfl rfl rfl ?c1 ?c2 ?_);case c1=>simp;omega
        case c2=>have:=(aR.1 H2.out).1;omega
        intro v' D y;have bm:=O.ne_cells H2.out (by decide);have Q:Hid (D.heap[w.heap.size+1]? = some (.cells #[Z] 29 (0,0))):=y.chg'.heap H2.out bm;have d1:D.cell? ⟨w.heap.size+1,0,none⟩=some Z:=(by rw [aL Q.out];rfl);have e1:D.frozen? ⟨w.heap.size+1,0,none⟩=false:=az Q.out 0;obtain⟨a,n',G,rfl⟩:=y.own.shape;go_wp2_with fail;go_roundw
        case rel=>
          have R:=aw D ⟨w.heap.size+1,0,none⟩ (.slice a n' G);have bn:=y.own.ne_cells Q.out (by decide);have b5:∀ b,Z.ownBlock=some b->¬m b:=h4;have bt:=z.bd h5;have bu:∀ b,(Value.slice a n' G).ownBlock=some b->¬m b:=by
            intro b d bf;rcases y.fresh b d with h | h;· exact h4 b h bf
            · have:=bt b bf;omega
          refine⟨i+1,o++[s[i]],q,m,by omega,by go_num,⟨?_,⟨_,by rw [aB Q.out];rfl,?_,?_⟩,?_,h6,h7⟩,ad (by rw [V.out,Y.out]),?_,hF,by omega,by simp;omega⟩;· exact R.heap (y.chg'.heap H1.out (O.ne_cells H1.out (by decide))) (by simp)
          · rw [fN];exact y.own.chg R (by intro b d e;simp at e;subst e;exact bn d)
          · exact bu
          · refine z.loc (z.loc h5 y.chg' (fun b d e=>h4 b e d)) R (by intro b d e;simp at e;subst e;exact h7 d)
          · refine(J.trans y.chg' ?_).trans R ?_;· intro b d e;have:=(O.lt b e).1;omega
            · intro b d e;simp at e;omega
        case measure=>simp [intOf];omega
      | false=>
        have Y:=ad (BI o s i a6 M);go_wp2_with fail;refine(BO s[i] _ M).mono ?_;rintro e w' ⟨rfl,rfl⟩;go_wp2_with fail;refine(wR z a2 w.heap.size (o.map sm) q m _ X.out (by omega) (by simp;omega)).mono ?_;rintro e D ⟨rfl,F2,K,av,L⟩;have a0:=ad K;have a1:=ad L;clear K L;go_wp2_with fail;go_roundw
        case rel=>
          have bv:=J.size;refine⟨i+1,[],_,F2,by omega,by go_num,a0.out,ad (by rw [V.out,Y.out];simp),J.trans av ?_,?_,by have:=DK (o.map sm);simp;omega,by simp⟩
          · intro b d e;rcases e with e | e
            · rcases hF b e with h | h;· exact h
              · omega
            · omega
          · intro b d;rcases a1.out b d with h | h;· exact hF b h
            · right;omega
        case measure=>simp [intOf];omega
    · obtain rfl:i=s.length:=(by omega);have HE:Hid (A++dS s=q++jS (o.map sm)):=(by show _=_;rw [V.out,fZ,BK]);go_wp2_with fail;refine(wR z a2 w.heap.size (o.map sm) q m _ X.out (by omega) (by simp;omega)).mono ?_;rintro e D ⟨rfl,F2,K,av,L⟩;have a0:=ad K;have a1:=ad L;clear K L;go_wp2_with fail;go_end0;have bv:=J.size;refine⟨rfl,F2,?_,J.trans av ?_,?_⟩;· rw [HE.out];exact a0.out.2.2.1
      · intro b d e;rcases e with e | e
        · rcases hF b e with h | h;· exact h
          · omega
        · omega
      · intro b d;rcases a1.out b d with h | h;· exact hF b h
        · right;omega
def is(d:Nat)(h:List (List UInt8))(g:List UInt8->List UInt8)(m:List (List UInt8))(F:Nat->Prop)(w:World):Prop:=
 ∃ e,w.heap[d]? = some (.cells #[e] 98 (0,0))/\Ow w (d+1) eS e (h++m.map g)/\(∀ b,F b↔b=d\/e.ownBlock=some b)
theorem is.loc{e:Nat}{m:List (List UInt8)}{g:List UInt8->List UInt8}{o:List (List UInt8)}{F G:Nat->Prop}{w w':World}(h:is e m g o F w)(q:ak G w w')(y:∀ b,F b->¬G b):is e m g o F w':=by
 obtain⟨z,A,D,d⟩:=h;exact⟨z,q.heap A (y _ ((d _).2 (.inl rfl))),D.chg q (fun b I=>y _ ((d _).2 (.inr I))),d⟩
theorem is.bd{d:Nat}{m:List (List UInt8)}{g:List UInt8->List UInt8}{o:List (List UInt8)}{F:Nat->Prop}{w:World}(h:is d m g o F w)(b:Nat)(q:F b):b<w.heap.size:=by
 obtain⟨D,y,z,A⟩:=h;rcases(A b).1 q with e | e;· rw [e];exact(aR.1 y).1
 · exact(z.lt b e).2
theorem is.put{d:Nat}{y:List (List UInt8)}{g:List UInt8->List UInt8}{z:List (List UInt8)}{w q:World}{m:Value}{a:Option Addr}{n o:Nat}{x:List UInt8}
  (h1:w.heap[d]? = some (.cells #[m] 98 (0,0))) (h2:Ow w (d+1) eS m (y++z.map g)) (ha:cQ (d+1) eS (y++z.map g++[g x]) w m (.slice a n o) q) :
  ∃ A,is d y g (z++[x]) A (q.setCell ⟨d,0,none⟩ (.slice a n o))/\ak (fun b=>b=d\/m.ownBlock=some b) w (q.setCell ⟨d,0,none⟩ (.slice a n o))/\(∀ b,A b->(b=d\/m.ownBlock=some b)\/w.heap.size<=b):=by
 have G:=h2.ne_cells h1 (by decide);have D:=ha.chg'.heap h1 G;have I:=ha.own.ne_cells D (by decide);have F:=aw q ⟨d,0,none⟩ (.slice a n o);refine⟨fun b=>b=d\/(Value.slice a n o).ownBlock=some b,⟨_,by rw [aB D];rfl,?_,fun b=>Iff.rfl⟩,?_,?_⟩;· rw [fN,<- eE];exact ha.own.chg F (by intro b J e;simp at e;subst e;exact I J)
 · exact(ha.chg'.mono (G':=fun b=>b=d\/m.ownBlock=some b) (fun b _ h=>.inr h)).trans F (fun b _ h=>.inl h)
 · rintro b (e | e);· exact .inl (.inl e)
   · rcases ha.fresh b e with h | h;· exact .inl (.inr h)
     · exact .inr h
def nY(l:List UInt8):List UInt8:=l
def jx(d:Int):List am->Int
 | []=>d
 | r::l=>if d > 1099511627776\/(r.source.length:Int) > 1099511627776\/(r.text.length:Int) > 1099511627776 then 2199023255552 else jx (d+16+r.source.length+r.text.length) l
theorem gh{w:World}{v:Value}{l:List am}(h:af w eR v l)(k:Nat)(m:k<l.length) :
  ∃ b d q,v=.slice (some ⟨b,d,none⟩) l.length q/\w.cell? ⟨b,d+k*4,none⟩=some (.int .u64 l[k].time.toNat)/\w.cell? ⟨b,d+k*4+1,none⟩=some (u8 l[k].level)/\w.cell? ⟨b,d+k*4+2,none⟩=some (S l[k].source)/\w.cell? ⟨b,d+k*4+3,none⟩=some (S l[k].text):=by
 obtain⟨b,d,q,rfl,F,G,o⟩:=h.cells (by intro e;simp [e]at m);have y:=o k m 0 (by decide) _ rfl;have z:=o k m 1 (by decide) _ rfl;have A:=o k m 2 (by decide) _ rfl;have D:=o k m 3 (by decide) _ rfl;exact⟨b,d,q,rfl,y,z,A,D⟩
theorem Jc(v:Value)(l:List am)(w:World)(y:af w eR v l)(O:l.length<=1000) :
  Calls Tryz.prog 25 #[v] w fun e w'=>e=.returned (.int .i64 (jx 0 l))/\Fr w w':=by
 obtain⟨a,Q,rfl,R,T,U⟩:=y.shape;go_enter Tryz.func25, Tryz.ntmps25;go_wp2_with fail;go_loopw [3,4] (fun F q wr=>∃ (k:Nat) (d:Nat),k<=l.length/\q=N k/\F=N (d:Nat)/\d<=k*4398046511104/\jx 0 l=jx (d:Nat) (l.drop k)/\Fr w wr) (fun _ q _=>l.length - (intOf q).toNat);case atStart=>exact⟨0,0,ap _,rfl,rfl,by omega,rfl,Fr.refl w⟩
 case round=>
  obtain⟨k,d,V,rfl,rfl,X,h,m⟩:=hrel;by_cases z:k<l.length
  · obtain⟨b,Y,Z,G,I,J,c2,K⟩:=gh (y.fr m) k z;rw [cM z,jx]at h;obtain⟨r,A⟩:∃ r,l[k]=r:=⟨_,rfl⟩;rw [A]at I J c2 K h;have o:=ad h;clear h A;cases G;by_cases D:(1099511627776:Int)<d;· have aa:(d:Int) > 1099511627776:=D;go_wp2_with fail;go_ret;exact⟨fX (fun x=>Ending.returned (Value.int .i64 x)) (o.out.trans (ai (.inl D))).symm,m⟩
    · by_cases L:(1099511627776:Int)<r.source.length;· go_wp2_with fail;go_ret;exact⟨fX (fun x=>Ending.returned (Value.int .i64 x)) (o.out.trans (ai (.inr (.inl L)))).symm,m⟩
      · by_cases M:(1099511627776:Int)<r.text.length;· go_wp2_with fail;go_ret;exact⟨fX (fun x=>Ending.returned (Value.int .i64 x)) (o.out.trans (ai (.inr (.inr M)))).symm,m⟩
        · have ab:IntKind.i64.wrap ((d:Int)+16)=(d:Int)+16:=ar _ (by omega);have ac:IntKind.i64.wrap ((d:Int)+16+r.source.length)=(d:Int)+16+r.source.length:=ar _ (by omega);have aj:IntKind.i64.wrap ((d:Int)+16+r.source.length+r.text.length)=(d:Int)+16+r.source.length+r.text.length:=ar _ (by omega);go_upto_region 7 with fail;go_quiet (fail);go_wp2_with fail;go_roundw;case rel=>refine⟨k+1,d+16+r.source.length+r.text.length,by omega,by go_num,by simp [N],by omega,?_,by first | exact m.drewN _ | exact m⟩;rw [o.out,ah (by omega)];simp
          case measure=>simp [intOf];omega
  · obtain rfl:k=l.length:=(by omega);rw [fZ,jx]at h;have o:=ad h;clear h;go_wp2_with fail;go_ret;exact⟨fX (fun x=>Ending.returned (Value.int .i64 x)) o.out.symm,m⟩
theorem Lm(v:Value)(l:List am)(w:World)(d:af w eR v l)(a c:Nat)(q:a<=1000) :
  Calls Tryz.prog 12 #[v,N a,N c] w fun e w'=>e=.returned (.bool (decide (a<l.length) || decide ((c:Int)<jx 0 l)))/\Fr w w':=by
 obtain⟨p,y,rfl,z,A,D⟩:=d.shape;go_enter Tryz.func12, Tryz.ntmps12;by_cases h:a<l.length;· have m:(a:Int)<l.length:=(by omega);go_wp2_with fail;go_ret;exact⟨by simp [h],Fr.refl w⟩
 · have m:¬(a:Int)<l.length:=(by omega);go_wp2_with fail;refine(Jc _ l _ d (by omega)).mono ?_;rintro e w' ⟨rfl,o⟩;go_wp2_with fail;go_ret;exact⟨by simp [h],o⟩
def eJ:al Tryz.prog Nat:=⟨3,1,8,0,.int .i64 0,fun n=>[N n],by kernel_rfl,by decide,by decide,by simp [Value.cells],fun _=>rfl,by intro x u d;simp at d;subst d;rfl⟩
def LJ(s:jp):List Value:=[.int .i64 s.op,.int .i64 s.n,S s.word,.int .u64 s.fa.toNat,.int .u64 s.fb.toNat]
abbrev LI(s:jp):Value:=.agg #[.int .i64 s.op,.int .i64 s.n,S s.word,.int .u64 s.fa.toNat,.int .u64 s.fb.toNat]
def eI:al Tryz.prog Int:=⟨3,1,8,0,.int .i64 0,fun n=>[.int .i64 n],by kernel_rfl,by decide,by decide,by simp [Value.cells],fun _=>rfl,by intro x u d;simp at d;subst d;rfl⟩
end Go.Proofs.YtdamnfpigajmoaaGreatDoor
