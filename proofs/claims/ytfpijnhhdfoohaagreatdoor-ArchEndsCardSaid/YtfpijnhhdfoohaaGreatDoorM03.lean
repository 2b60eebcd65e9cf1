/- Parts of the proof of ArchEnds: Elt W17 EltJ EltQ W15 W15b W15c. -/
import Derived.Test.YtfpijnhhdfoohaaGreatDoorChecked
import Derived.Test.YtfpijnhhdfoohaaGreatDoorM02
import Derived.Test.YtfpijnhhdfoohaaGreatDoorM01
set_option linter.unusedVariables false
set_option linter.unusedSectionVars false
set_option linter.unusedSimpArgs false
set_option maxHeartbeats 8000000
set_option maxRecDepth 100000
namespace Go.Fk
abbrev gz:=@List.not_mem_nil
abbrev qk:=@List.drop_length
end Go.Fk
namespace Go.Fk
open Go.RowKit
theorem af{w:World}{g:Nat}{d:Array Value}{T:TypeId}{p:Nat × Nat}{v:Value}(h:w.heap[g]?=some (.cells d T p))(i:Nat)(e:d.toList[i]?=some v):w.cell? ⟨g,i,none⟩=some v:=by rw [aA h,<- Array.getElem?_toList];exact e
end Go.Fk
namespace Go.Proofs.YtfpijnhhdfoohaaGreatDoor
open Go.RowKit Go.Fk
def eB:au Tryz.prog UInt8:=⟨5,1,1,0,.int .u8 0,fun c=>[u8 c],by kernel_rfl,by decide,by decide,by simp [Value.cells],fun _=>rfl,by intro x u hu;simp at hu;subst hu;rfl⟩
def eS:au Tryz.prog (List UInt8):=⟨9,1,16,[],.string ⟨#[]⟩,fun c=>[S c],by kernel_rfl,by decide,by decide,by simp [Value.cells],fun _=>rfl,by intro x u hu;simp at hu;subst hu;rfl⟩
structure aF where
 time:UInt64
 level:UInt8
 source:List UInt8
 text:List UInt8
 deriving DecidableEq
def aF.cells(r:aF):List Value:=[.int .u64 r.time.toNat,u8 r.level,S r.source,S r.text]
def eR:au Tryz.prog aF:=⟨40,4,48,⟨0,0,[],[]⟩,.agg #[.int .u64 0,.int .u8 0,.string ⟨#[]⟩,.string ⟨#[]⟩],aF.cells,by kernel_rfl,by decide,by decide,by simp [Value.cells,aF.cells],fun _=>rfl,by intro x u hu;simp only [aF.cells,jW,gz,or_false]at hu;rcases hu with rfl | rfl | rfl | rfl <;> rfl⟩
def F0(d:Int):List aF->Int
 | []=>d
 | r::l=>if d > 1099511627776\/(r.source.length:Int) > 1099511627776\/(r.text.length:Int) > 1099511627776 then 2199023255552 else F0 (d+16+r.source.length+r.text.length) l
theorem pA{w:World}{v:Value}{l:List aF}(h:ai w eR v l)(k:Nat)(m:k<l.length) :
  ∃ b d q,v=.slice (some ⟨b,d,none⟩) l.length q/\w.cell? ⟨b,d+k*4,none⟩=some (.int .u64 l[k].time.toNat)/\w.cell? ⟨b,d+k*4+1,none⟩=some (u8 l[k].level)/\w.cell? ⟨b,d+k*4+2,none⟩=some (S l[k].source)/\w.cell? ⟨b,d+k*4+3,none⟩=some (S l[k].text):=by
 obtain⟨b,d,q,rfl,F,G,o⟩:=h.cells (by intro e;simp [e]at m);have z:=o k m 0 (by decide) _ rfl;have A:=o k m 1 (by decide) _ rfl;have B:=o k m 2 (by decide) _ rfl;have D:=o k m 3 (by decide) _ rfl;exact⟨b,d,q,rfl,z,A,B,D⟩
def eJ:au Tryz.prog Nat:=⟨3,1,8,0,.int .i64 0,fun n=>[N n],by kernel_rfl,by decide,by decide,by simp [Value.cells],fun _=>rfl,by intro x u d;simp at d;subst d;rfl⟩
def SO(s:kX):List Value:=[.int .i64 s.op,.int .i64 s.n,S s.word,.int .u64 s.fa.toNat,.int .u64 s.fb.toNat]
abbrev SN(s:kX):Value:=.agg #[.int .i64 s.op,.int .i64 s.n,S s.word,.int .u64 s.fa.toNat,.int .u64 s.fb.toNat]
def eI:au Tryz.prog Int:=⟨3,1,8,0,.int .i64 0,fun n=>[.int .i64 n],by kernel_rfl,by decide,by decide,by simp [Value.cells],fun _=>rfl,by intro x u d;simp at d;subst d;rfl⟩
theorem DS(c:UInt8):(c.toNat:Int)<=255/\(0:Int)<=c.toNat:=by have:=c.toNat_lt;omega
theorem FH (c : UInt8) (w : World) (h : iR c = true) :
    Calls Tryz.prog 190 #[u8 c] w fun e m=>e=.returned (.tuple #[u8 (sm c),.bool true])/\w=m:=by
  have o:=DS c;rw [CC]at h;have d:=ID c;have H:Hid (((sm c).toNat:Int)=if 65<=c.toNat/\c.toNat<=90 then(c.toNat:Int)+32 else c.toNat):=(by show _=_;rw [d];split <;> rfl);clear d;obtain⟨q,z⟩:=o;go_enter Tryz.func190, Tryz.ntmps190;go_wp2_with fail;all_goals(first | omega | skip)
  all_goals go_ret2
  all_goals refine⟨?_,rfl⟩
  all_goals unfold u8;rw [H.out]
  all_goals split
  all_goals first | rfl | omega
theorem FI(c:UInt8)(w:World)(h:iR c=false) :
  Calls Tryz.prog 190 #[u8 c] w fun e d=>e=.returned (.tuple #[.int .u8 0,.bool false])/\w=d:=by
 have m:=DS c;rw [MD]at h;obtain⟨o,q⟩:=m;go_enter Tryz.func190, Tryz.ntmps190;go_wp2_with fail;all_goals(first | omega | skip)
 all_goals go_ret2
 all_goals exact⟨rfl,rfl⟩
def Tq:Option (List UInt8)->Value
 | some r=>.tuple #[S r,.bool true]
 | none=>.tuple #[S [],.bool false]
theorem Di{f:FuncId}{d:Func}{c:Code}(e:Tryz.prog.funcs[f]?=some d)(h:(d.name == "runtime.NumGoroutine")=false)(m:d.body=some c)(args:Array Value)(w:World):(callFunc f args).run Tryz.prog w=.ok (.enter f args) w:=by
 have o:d.name≠ "runtime.NumGoroutine":=by simpa using h
 simp [callFunc,e,o,m,mark]
structure uV (k:Nat) (caps:Array Value) (I:List (List UInt8)->(Nat->Prop)->World->Prop):Prop where
 loc:∀ {ws F G w w'},I ws F w->ah G w w'->(∀ b,F b->¬G b)->I ws F w'
 bd:∀ {ws F w},I ws F w->∀ b,F b->b<w.heap.size
 call : ∀ {ws F w} (x : List UInt8), I ws F w → x.length ≤ 24 → ws.length ≤ 2000000000 → Calls Tryz.prog k (#[S x] ++ caps) w fun e w' => e = .returned (.tuple #[]) ∧
  ∃ F',I (ws++[x]) F' w'/\ah F w w'/\(∀ b,F' b->F b\/w.heap.size<=b)
def SI(I:List (List UInt8)->(Nat->Prop)->World->Prop)(B:Nat)(e:Value)(h:List UInt8)(m:List (List UInt8))(F:Nat->Prop)(w:World):Prop:=
 w.heap[B]?=some (.cells #[e] 239 (0,0)) /\
 (∃ d,w.heap[B+1]?=some (.cells #[d] 22 (0,0))/\Ow w (B+2) eB d h/\(∀ b,d.ownBlock=some b->¬F b)) /\
 I m F w/\¬F B/\¬F (B+1)
def lZ(d:List UInt8):List (List UInt8):=if d=[]then []else [d.take 24]
theorem Aj{k:Nat}{U:Array Value}{I:List (List UInt8)->(Nat->Prop)->World->Prop}(M:uV k U I)(bl:∀ args w,(callFunc k args).run Tryz.prog w=.ok (.enter k args) w)(B:Nat)(d:List UInt8)(G:List (List UInt8))(F:Nat->Prop)(w:World)
  (h:SI I B (.func (.func k) #[] U) d G F w) (hlen:G.length<=2000000000) (hr:d.length<=2147483648) :
  Calls Tryz.prog 189 #[.pointer (some ⟨B+1,0,none⟩),.pointer (some ⟨B,0,none⟩)] w fun e w'=>e=.returned (.tuple #[]) /\
   ∃ J,SI I B (.func (.func k) #[] U) [] (G++lZ d) J w'/\ah (fun b=>F b\/b=B+1) w w'/\(∀ b,J b->F b\/w.heap.size<=b):=by
 obtain⟨V,⟨rv,O,A,X⟩,h5,Y,K⟩:=h;have c0:=af V 0 rfl;have c1:=af O 0 rfl;have f1:w.frozen? ⟨B+1,0,none⟩=false:=al O 0;have H1:=ad V;have L:=ad O;clear V O;by_cases Z:d=[]
 · subst Z;obtain⟨a,z,rfl⟩:=A.shape';have h0:((0:Int)<([]:List UInt8).length)=False:=(by simp);go_enter Tryz.func189, Tryz.ntmps189;go_wp2_with fail;go_end0;have q:=ao w ⟨B+1,0,none⟩ (.slice a 0 z);have a4:B+1<w.heap.size:=(aM.1 L.out).1;have a5:=A.ne_cells L.out (by decide);refine⟨rfl,F,⟨q.heap H1.out (by simp),⟨_,by rw [a8 L.out];rfl,?_,X⟩,?_,Y,K⟩,?_,fun b o=>.inl o⟩;· exact A.chg q (by intro b o e;simp at e;subst e;exact a5 o)
   · rw [show G++lZ []=G by simp [lZ]];exact M.loc h5 q (by intro b o e;simp at e;subst e;exact K o)
   · exact q.mono (fun b _ h=>.inr h)
 · obtain⟨g,z,rfl,b0,a6,b1,a7⟩:=A.atHead Z;unfold maxLen at a7;have hp:0<d.length:=(by cases d <;> simp_all);have aC:∃ m:Nat,(d.take 24).length=m/\(if(24:Int)<d.length then(24:Int)else d.length)=m/\m<=z/\m<=d.length:=(by refine⟨min 24 d.length,by simp,?_,by omega,by omega⟩;split <;> omega);obtain⟨m,ak,hm,b4,ba⟩:=aC;have b5:(m:Int)<=z:=(by omega);have ap:d.take m=d.take 24:=(by rw [<- ak,aG,<- List.take_eq_take_min]);have av:ai w eB (.slice (some ⟨g,0,none⟩) m z) (d.take 24):=(by rw [<- ap];exact A.see.take ba);have bb:=tY eB w.drew 22 9 Tryz.underlying22 Tryz.underlying5 Tryz.underlying9 rfl rfl av.drew;have HX:Hid ((d.take 24).length<=24):=(by show _<=_;simp;omega);clear ap ak av;generalize hx:d.take 24=x at bb HX;have bc:=ad hx;clear hx;go_enter Tryz.func189, Tryz.ntmps189;go_upto_region 1 with fail;go_still_tail 7,(by kernel_rfl);change wpList _ _ _ _ _ w.drew;go_wp2_with fail;refine(M.call x (M.loc h5 (s7 (fun _=>False) w 1) (fun _ _ h=>h)) HX.out hlen).mono ?_;rintro e D ⟨rfl,J,hI,hc,hF⟩;have Q:ah F w D:=(s7 F w 1).trans hc (fun _ _ h=>h);have b6:w.heap.size<=D.heap.size:=hc.size;have aa:Hid (D.heap[B+1]?=some (.cells #[.slice (some ⟨g,0,none⟩) d.length z] 22 (0,0))):=Q.heap L.out K;have d1:D.cell? ⟨B+1,0,none⟩=some (.slice (some ⟨g,0,none⟩) d.length z):=(by rw [aA aa.out];rfl);have e1:D.frozen? ⟨B+1,0,none⟩=false:=al aa.out 0;have bd:=ad hI;clear hI;go_wp2_with fail;go_end0;have a4:B+1<w.heap.size:=(aM.1 L.out).1;have R:∀ b,b<w.heap.size->¬F b->¬J b:=by
    intro b o hn h;rcases hF b h with h | h;· exact hn h
    · have:(w.drewN 1).heap.size=w.heap.size:=rfl;omega
   have q:=ao D ⟨B+1,0,none⟩ (.slice (some ⟨g,0,none⟩) 0 z);refine⟨rfl,J,⟨?_,⟨_,by rw [a8 aa.out];rfl,?_,?_⟩,?_,R _ (by omega) Y,R _ (by omega) K⟩,?_,fun b o=>(hF b o)⟩;· exact q.heap (Q.heap H1.out Y) (by simp)
   · have h8:=(A.chg Q (by intro b o;exact X b o)).take (j:=0) (an _);exact(h8.chg q (by intro b o e;simp only [Value.ownBlock,lQ]at o;simp at e;omega))
   · intro b o;simp only [Value.ownBlock,lQ]at o;subst o;exact R _ a6 (X _ rfl)
   · unfold lZ;rw [ae Z,bc.out];exact M.loc bd.out q (by intro b o e;simp at e;subst e;exact R _ (by omega) K o)
   · exact(Q.mono (fun b _ h=>.inl h)).trans q (fun b _ h=>.inr h)
theorem Bb(d:List UInt8):lZ (d.map sm)=if d=[]then []else [(d.map sm).take 24]:=by
 unfold lZ;cases d <;> simp
theorem FG(d:List UInt8):gA d []=lZ (d.map sm):=by rw [Bb,gA]
theorem FF(d s:List UInt8)(i:Nat)(h:i<s.length)(e:iR s[i]=true):gA d (s.drop i)=gA (d++[s[i]]) (s.drop (i+1)):=by
 rw [ip h,gA,ag e]
theorem FE(d s:List UInt8)(i:Nat)(h:i<s.length)(e:iR s[i]=false):gA d (s.drop i)=lZ (d.map sm)++gA [] (s.drop (i+1)):=by
 rw [ip h,gA,e,Bb];rfl
theorem Jj(d:List UInt8):(lZ d).length<=1:=by unfold lZ;split <;> simp
theorem AJ {k : Nat} {V : Array Value} {I : List (List UInt8) → (Nat → Prop) → World → Prop} (A : uV k V I) (a2 : ∀ args w, (callFunc k args).run Tryz.prog w = .ok (.enter k args) w) (s : List UInt8) (B : List (List UInt8)) (F : Nat → Prop) (w : World)
    (h:I B F w) (hlen:B.length+s.length<=2000000000) :
    Calls Tryz.prog 151 #[S s,.func (.func k) #[] V] w fun e M=>e=.returned (.tuple #[]) /\
      ∃ m,I (B++gU s) m M/\ah F w M/\(∀ b,m b->F b\/w.heap.size<=b):=by
  have bx:∀ (fn:Fn) (first G:Array Value) (w:World),(Instr.makeFunc fn first G).run Tryz.prog w=.ok (.func fn first G) w:=fun _ _ _ _=>rfl;have a4:=A.bd h;go_enter Tryz.func151, Tryz.ntmps151;go_wp2_with fail
  go_loopw [12] (fun X wr => ∃ (i : Nat) (o : List UInt8) (q : List (List UInt8)) (m : Nat → Prop), i ≤ s.length ∧ X = N i ∧ SI I w.heap.size (.func (.func k) #[] V) (o.map sm) q m wr ∧
      Hid (B ++ gU s = q ++ gA o (s.drop i)) ∧ ah F w wr ∧ (∀ b, m b → F b ∨ w.heap.size ≤ b) ∧ q.length ≤ B.length + i ∧ o.length ≤ i)
    (fun X _=>s.length - (intOf X).toNat)
  case atStart=>
    refine⟨0,[],B,F,an _,rfl,⟨?_,⟨.slice none 0 0,?_,Ow.nil,by intro b d;cases d⟩,?_,?_,?_⟩,ad rfl,?_,fun b d=>.inl d,by omega,by simp⟩;· rw [ig _ _ _ (by simp),a9 _ _ _ rfl]
    · rw [a9 _ _ _ (by simp)]
    · exact A.loc h ((((Fr.refl w).alloc _).alloc _).chg (fun _=>False)) (fun _ _ h=>h)
    · intro d;have:=a4 _ d;omega
    · intro d;have:=a4 _ d;omega
    · exact(((Fr.refl w).alloc _).alloc _).chg F
  case round=>
    obtain⟨i,o,q,m,hi,rfl,a5,Y,J,hF,b1,b2⟩:=hrel;have Z:=ad a5;clear a5;by_cases a6:i<s.length
    · cases O:iR s[i]with
      | true=>
        have HW:=ad (FF o s i a6 O);obtain⟨h1,⟨rv,h2,Q,h4⟩,h5,h6,h7⟩:=Z.out;have c1:=af h2 0 rfl;have H1:=ad h1;have H2:=ad h2;clear h1 h2;go_wp2_with fail;refine(FH s[i] _ O).mono ?_;rintro e M ⟨rfl,rfl⟩;go_wp2_with (at_builtin;refine cW eB rfl (.tmp 23) (.tmp 25) 22 rfl Tryz.underlying22 (w.heap.size+2) rfl Q [sm s[i]] _ _ _ rfl rfl rfl ?c1 ?c2 ?_);case c1=>simp;omega
        case c2=>have:=(aM.1 H2.out).1;omega
        intro v' D z;have bk:=Q.ne_cells H2.out (by decide);have R:Hid (D.heap[w.heap.size+1]?=some (.cells #[rv] 22 (0,0))):=z.chg'.heap H2.out bk;have d1:D.cell? ⟨w.heap.size+1,0,none⟩=some rv:=(by rw [aA R.out];rfl);have e1:D.frozen? ⟨w.heap.size+1,0,none⟩=false:=al R.out 0;obtain⟨a,n',G,rfl⟩:=z.own.shape;go_wp2_with fail;go_roundw
        case rel=>
          have U:=ao D ⟨w.heap.size+1,0,none⟩ (.slice a n' G);have bl:=z.own.ne_cells R.out (by decide);have b5:∀ b,rv.ownBlock=some b->¬m b:=h4;have bm:=A.bd h5;have bs:∀ b,(Value.slice a n' G).ownBlock=some b->¬m b:=by
            intro b d bd;rcases z.fresh b d with h | h;· exact h4 b h bd
            · have:=bm b bd;omega
          refine⟨i+1,o++[s[i]],q,m,by omega,by go_num,⟨?_,⟨_,by rw [a8 R.out];rfl,?_,?_⟩,?_,h6,h7⟩,ad (by rw [Y.out,HW.out]),?_,hF,by omega,by simp;omega⟩;· exact U.heap (z.chg'.heap H1.out (Q.ne_cells H1.out (by decide))) (by simp)
          · rw [gp];exact z.own.chg U (by intro b d e;simp at e;subst e;exact bl d)
          · exact bs
          · refine A.loc (A.loc h5 z.chg' (fun b d e=>h4 b e d)) U (by intro b d e;simp at e;subst e;exact h7 d)
          · refine(J.trans z.chg' ?_).trans U ?_;· intro b d e;have:=(Q.lt b e).1;omega
            · intro b d e;simp at e;omega
        case measure=>simp [intOf];omega
      | false=>
        have HW:=ad (FE o s i a6 O);go_wp2_with fail;refine(FI s[i] _ O).mono ?_;rintro e M ⟨rfl,rfl⟩;go_wp2_with fail;refine(Aj A a2 w.heap.size (o.map sm) q m _ Z.out (by omega) (by simp;omega)).mono ?_;rintro e D ⟨rfl,F2,K,av,L⟩;have a0:=ad K;have a1:=ad L;clear K L;go_wp2_with fail;go_roundw
        case rel=>
          have bu:=J.size;refine⟨i+1,[],_,F2,by omega,by go_num,a0.out,ad (by rw [Y.out,HW.out];simp),J.trans av ?_,?_,by have:=Jj (o.map sm);simp;omega,by simp⟩
          · intro b d e;rcases e with e | e
            · rcases hF b e with h | h;· exact h
              · omega
            · omega
          · intro b d;rcases a1.out b d with h | h;· exact hF b h
            · right;omega
        case measure=>simp [intOf];omega
    · obtain rfl:i=s.length:=(by omega);have HE:Hid (B++gU s=q++lZ (o.map sm)):=(by show _=_;rw [Y.out,qk,FG]);go_wp2_with fail;refine(Aj A a2 w.heap.size (o.map sm) q m _ Z.out (by omega) (by simp;omega)).mono ?_;rintro e D ⟨rfl,F2,K,av,L⟩;have a0:=ad K;have a1:=ad L;clear K L;go_wp2_with fail;go_end0;have bu:=J.size;refine⟨rfl,F2,?_,J.trans av ?_,?_⟩;· rw [HE.out];exact a0.out.2.2.1
      · intro b d e;rcases e with e | e
        · rcases hF b e with h | h;· exact h
          · omega
        · omega
      · intro b d;rcases a1.out b d with h | h;· exact hF b h
        · right;omega
def jS(d:Nat)(h:List (List UInt8))(g:List UInt8->List UInt8)(m:List (List UInt8))(F:Nat->Prop)(w:World):Prop:=
 ∃ e,w.heap[d]?=some (.cells #[e] 107 (0,0))/\Ow w (d+1) eS e (h++m.map g)/\(∀ b,F b↔b=d\/e.ownBlock=some b)
theorem jS.loc{e:Nat}{m:List (List UInt8)}{g:List UInt8->List UInt8}{o:List (List UInt8)}{F G:Nat->Prop}{w q:World}(h:jS e m g o F w)(z:ah G w q)(A:∀ b,F b->¬G b):jS e m g o F q:=by
 obtain⟨B,D,I,d⟩:=h;exact⟨B,z.heap D (A _ ((d _).2 (.inl rfl))),I.chg z (fun b J=>A _ ((d _).2 (.inr J))),d⟩
theorem jS.bd{d:Nat}{m:List (List UInt8)}{g:List UInt8->List UInt8}{o:List (List UInt8)}{F:Nat->Prop}{w:World}(h:jS d m g o F w)(b:Nat)(q:F b):b<w.heap.size:=by
 obtain⟨D,z,A,B⟩:=h;rcases(B b).1 q with e | e;· rw [e];exact(aM.1 z).1
 · exact(A.lt b e).2
theorem jS.put{d:Nat}{z:List (List UInt8)}{g:List UInt8->List UInt8}{A:List (List UInt8)}{w q:World}{m:Value}{a:Option Addr}{n o:Nat}{x:List UInt8}
  (h1:w.heap[d]?=some (.cells #[m] 107 (0,0))) (h2:Ow w (d+1) eS m (z++A.map g)) (ha:dg (d+1) eS (z++A.map g++[g x]) w m (.slice a n o) q) :
  ∃ B,jS d z g (A++[x]) B (q.setCell ⟨d,0,none⟩ (.slice a n o))/\ah (fun b=>b=d\/m.ownBlock=some b) w (q.setCell ⟨d,0,none⟩ (.slice a n o))/\(∀ b,B b->(b=d\/m.ownBlock=some b)\/w.heap.size<=b):=by
 have G:=h2.ne_cells h1 (by decide);have D:=ha.chg'.heap h1 G;have I:=ha.own.ne_cells D (by decide);have F:=ao q ⟨d,0,none⟩ (.slice a n o);refine⟨fun b=>b=d\/(Value.slice a n o).ownBlock=some b,⟨_,by rw [a8 D];rfl,?_,fun b=>Iff.rfl⟩,?_,?_⟩;· rw [gp,<- mG];exact ha.own.chg F (by intro b J e;simp at e;subst e;exact I J)
 · exact(ha.chg'.mono (G':=fun b=>b=d\/m.ownBlock=some b) (fun b _ h=>.inr h)).trans F (fun b _ h=>.inl h)
 · rintro b (e | e);· exact .inl (.inl e)
   · rcases ha.fresh b e with h | h;· exact .inl (.inr h)
     · exact .inr h
def ro(l:List UInt8):List UInt8:=l
end Go.Proofs.YtfpijnhhdfoohaaGreatDoor
