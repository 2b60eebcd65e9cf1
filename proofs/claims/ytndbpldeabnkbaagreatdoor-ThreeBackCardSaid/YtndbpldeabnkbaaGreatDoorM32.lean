/- Lemmas for ThreeTurned. -/
import Derived.Test.YtndbpldeabnkbaaGreatDoorM31
import Derived.Test.YtndbpldeabnkbaaGreatDoorM19
set_option linter.all false
set_option maxHeartbeats 8000000
set_option maxRecDepth 100000
namespace Go.Fk
abbrev gd:=@Go.AllReadyIn.cons
abbrev is:=@Go.AllReadyIn.nil
abbrev ip:=@Go.wpAnyIn_ready
abbrev uyQb:=@Go.CallsIn.inRound
end Go.Fk
namespace Go.Proofs.YtndbpldeabnkbaaGreatDoor
open Go.RowKit Go.Fk
def lA(n:Nat)(l:List Z0):Z0:=(ao l.length++((ek l n).map λc=>ao (aZ c).length).flatten)++((ek l n).map aZ).flatten
def qg{α:Type}(l:List α)(n:Nat):(ek l n).length=aH l.length n:=by simp[ek]
def yz{α:Type}(l:List α)(n j:Nat)(h:j<(ek l n).length):(ek l n)[j]=(l.drop (j*n)).take n:=by simp[ek]
def tS(d n:Nat)(e:1<=n):aH d n*n<=d+n-1:=by unfold aH;exact zg _ _
def y8{α:Type}{l:List α}{n:Nat}{c:List α}(h:c∈ek l n):c.length<=n/\∀s∈c,s∈l:=by
 obtain⟨j,e,rfl⟩:=pC.1 h;rw[yz];exact⟨by rw[aA];omega,λs d=>s7 (fZ d)⟩
def G8(l:List Z0)(n j:Nat)(d:1<=n)(D:n<=64)(G:l.length<=10000)(h:∀s∈l,s.length<=25):((((ek l n).take j).map λc=>ao (aZ c).length).flatten).length<=100630:=by
 rw[kR];refine ay (oB _ 10 _ λc m=>?_) ?_;·have e:=y8 (fZ m);have o:=qZ 25 ω c (λs z=>h s (e.2 s z));have A:c.length*(25+20)<=64*45:=bH ω (al _);exact cJ _ ω
 ·have e:=tS l.length n d;have o:((ek l n).take j).length<=aH l.length n:=(by rw[aA,qg];omega);have A:aH l.length n*1<=aH l.length n*n:=oj _ d;omega
def IC(l:List Z0)(n j:Nat)(h:1<=n)(G:n<=64)(I:l.length<=10000)(m:∀s∈l,s.length<=25):((((ek l n).take j).map aZ).flatten).length<=452880:=by
 rw[kR];refine ay (oB _ (45*n) _ λc o=>?_) ?_;·have d:=y8 (fZ o);have e:=qZ 25 ω c (λs z=>m s (d.2 s z));have A:c.length*(25+20)<=n*45:=bH d.1 (al _);have D:45*n=n*45:=dX _ _;show(aZ c).length<=_;omega
 ·have d:=tS l.length n h;have e:((ek l n).take j).length<=aH l.length n:=(by rw[aA,qg];omega);have A:((ek l n).take j).length*(45*n)<=aH l.length n*(45*n):=bQ _ e;have D:aH l.length n*(45*n)=45*(aH l.length n*n):=(by rw[rp]);omega
attribute [local go_sem] ze
section
variable {P:Program} {α:Type} {w:World} {base:Nat} {v:Value} {l:List α} {F:Fence} {nF:Nat}
theorem uM(E:aw P α){d:Array Oper}{o:Oper}{a:Act}{K:Act->World->Prop}{Q:Exit->Act->World->Prop}{X:Prop}(e:o.guard=none)(s x:Operand)(t:TypeId)
  (ho:o.op=.call { callee:=.builtin .append,args:=#[s,x],argTypes:=#[t,t] }) (ht:P.underlying t=some (.slice E.e))
  (base:Nat) (hs:a.eval s=v) (hown:Ow w base E v l) (y:Value) (m:List α) (hx:a.eval x=y) (hsee:ah w E y m) (hn:l.length+m.length<=2147483648) (hbase:base<=w.heap.size)
  (h:∀v' w',dw base E (l++m) w v v' w'->K (a.put o.dst v') w'):if Region.wanted o (yielded d a.tmps)=true then Oper.wpIn F nF P o a w K Q else X:=by
 have z:Region.wanted o (yielded d a.tmps)=true:=by simp[Region.wanted,e]
 rw[af z];obtain⟨v',w',A,D⟩:=xo (P:=P) E w base t o.type ht hown hsee hn hbase;refine⟨?_,?_⟩;·simp[Oper.about,ho,resolve,Target.leads,Sem.run_pure]
 ·rw[Oper.semAt_plain F _ _ (by rw[ho];intro c G;cases G)];simp[execOp,ho,resolve,invoke,builtin,hs,hx,A,Result.andThen];exact h v' w' D
end
abbrev Tv : Array Oper := #[{ dst := some 31, op := Op.load 30 (Operand.tmp 6), type := 30, pos := "dict.go:70", after := #[], guard := none },
  { dst := some 32, op := Op.move (Operand.tmp 9), type := 30, pos := "dict.go:70", after := #[], guard := none },
  { dst := some 33, op := Op.call { callee := Callee.builtin Builtin.len, args := #[Operand.tmp 32], argTypes := #[30] }, type := 3, pos := "dict.go:70", after := #[{ on := 1, ground := Ground.data }], guard := none },
  { dst := some 34, op := Op.convert 3 60 (Operand.tmp 33), type := 60, pos := "dict.go:70", after := #[{ on := 2, ground := Ground.data }], guard := none },
  { dst := some 35, op := Op.call { callee := Callee.value (Operand.func 65), args := #[Operand.tmp 34], argTypes := #[60] }, type := 30, pos := "dict.go:70", after := #[{ on := 3, ground := Ground.data }], guard := none },
  { dst := some 36, op := Op.call { callee := Callee.builtin Builtin.append, args := #[Operand.tmp 31, Operand.tmp 35], argTypes := #[30, 30] }, type := 30, pos := "dict.go:70", after := #[{ on := 0, ground := Ground.data }, { on := 4, ground := Ground.data }, { on := 4, ground := Ground.chain }], guard := none },
  { dst := none, op := Op.store 30 (Operand.tmp 6) (Operand.tmp 36), type := 0, pos := "dict.go:70", after := #[{ on := 5, ground := Ground.data }, { on := 5, ground := Ground.chain }, { on := 0, ground := Ground.phase }, { on := 1, ground := Ground.phase }, { on := 2, ground := Ground.phase }, { on := 3, ground := Ground.phase }, { on := 4, ground := Ground.phase }, { on := 5, ground := Ground.phase }], guard := none }]
abbrev B0(n d m:Nat)(e:Option Addr)(h:Nat)(o:Option Addr)(z H:Nat)(A D G I J K L M O Q R U V X:Value):Act:=
 { tmps:=#[N n,.slice e d h,undef,undef,.slice none 0 0,.int .i64 0,.pointer (some ⟨H,0,none⟩),.pointer (some ⟨H+1,0,none⟩),D,G,N n,.bool false,.bool false,N n,.bool false,.bool false,.bool false,.slice e d h,.bool true,.bool false,.bool false,.slice e d h,.int .i64 (d:Int),.int .u64 (d:Int),.slice o m z,.slice e d h,N n,.func (.func 157) #[] #[.pointer (some ⟨H+1+1,0,none⟩),.pointer (some ⟨H+1+1+1,0,none⟩)],A,I,J,K,L,M,O,Q,R,U,V,X,undef,undef,undef,undef],defers:=[] }
def tN{W D z:World}{H B d m:Nat}{o:Option Addr}{A:Value}{M L:Z0}(U:Ow W B eB A M)(G:Fr W D)(I:z.heap[H]?=some (.cells #[A] 30 (0,0)))(J:Ow z B eB (.slice o d m) L)
  (hC:ai (λk=>A.ownBlock=some k) D z) (hF:∀b,(Value.slice o d m).ownBlock=some b->A.ownBlock=some b\/D.heap.size<=b) :
  (z.setCell ⟨H,0,none⟩ (.slice o d m)).heap[H]?=some (.cells #[.slice o d m] 30 (0,0))/\Ow (z.setCell ⟨H,0,none⟩ (.slice o d m)) B eB (.slice o d m) L /\
   ai (λk=>k=H\/A.ownBlock=some k) W (z.setCell ⟨H,0,none⟩ (.slice o d m))/\(∀b,(Value.slice o d m).ownBlock=some b->A.ownBlock=some b\/W.heap.size<=b):=by
 have K:=a9 z ⟨H,0,none⟩ (.slice o d m);have O:=J.ne_cells I δ;refine⟨by have:=aJ I 0 (.slice o d m);simpa using this,J.chg K (λk Q e=>O (by rw[Q,e])),?_,λb R=>(hF b R).imp id (λh=>ay G.size h)⟩;exact((G.chg (λk=>k=H\/A.ownBlock=some k)).trans (hC.mono (λk _ e=>.inr e)) (λ_ _ h=>h)).trans K (λ_ _ h=>.inl h)
def Tu(Z m:Nat)(n bf bk:Nat)(a0:Option Addr)(bm:Nat)(va:Option Addr)(vc H B:Nat)(xv t8 b0 b1:Value)(ba:Option Addr)(J bc:Nat)(hv:Value)(hd:Z0)(W:World)(Q:Exit->Act->World->Prop)
  (hH:W.heap[H]?=some (.cells #[hv] 30 (0,0))) (hO:Ow W B eB hv hd) (hBW:B<=W.heap.size) (hbn:J<=1000000) (hdl:hd.length<=1000000)
  (hQ : ∀ w' bd b2 b3 b4, w'.heap[H]? = some (.cells #[bd] 30 (0, 0)) → Ow w' B eB bd (hd ++ ao J) → ai (fun k => k = H ∨ hv.ownBlock = some k) W w' → (∀ b, bd.ownBlock = some b → hv.ownBlock = some b ∨ W.heap.size ≤ b) →
    Q .normal (B0 n bf bk a0 bm va vc H xv t8 (.slice ba J bc) b0 b1 b2 (.slice ba J bc) (N J) (.int .u64 (J : Int)) b3 b4 undef undef undef) w') :
  (Code.region 8 Tv true).wpIn (Fence.wide.inRound Z) m Tryz.prog Q (B0 n bf bk a0 bm va vc H xv t8 (.slice ba J bc) b0 b1 undef undef undef undef undef undef undef undef undef) W:=by
 have aa:=ad (rf J ω)
 have b5:=cJ J ω
 have b6:IntKind.u64.wrap (J:Int)=(J:Int):=dF _ ω
 obtain⟨ha,hc,rfl⟩:=hO.shape'
 have c0:=ag hH 0 rfl
 have L:=ad hH
 have G:=ad hO
 have HQ:=ad hQ
 refine wpIn_region_any (by kernel_rfl) ?_
 change wpAnyIn _ _ _ _ _ _ _ _ _ (World.drew _)
 have o:=(Fr.refl W).drew
 refine ip (rs:=[0,1]) (by kernel_rfl) σ ?_
 refine gd rfl (λK d=>?_) ?_
 ·go_simp
  refine d _ _ ?_
  refine ip (rs:=[1]) (by kernel_rfl) σ ?_
  refine gd rfl (λK d=>?_) is
  go_simp
  refine d _ _ ?_
  refine ip (rs:=[2]) (by kernel_rfl) σ ?_
  refine gd rfl (λK d=>?_) is
  go_simp
  refine d _ _ ?_
  refine ip (rs:=[3]) (by kernel_rfl) σ ?_
  refine gd rfl (λK d=>?_) is
  go_simp
  refine d _ _ ?_
  refine ip (rs:=[4]) (by kernel_rfl) σ ?_
  refine gd rfl (λK d=>?_) is
  go_simp
  refine⟨trivial,by simp[Fence.wide],(uyQb Z (lg.2 (aa.out _))).mono ?_⟩
  rintro e w5 ⟨v5,rfl,M,h⟩
  have c5:=(o.trans h).cell c0
  refine d _ _ ?_
  refine ip (rs:=[5]) (by kernel_rfl) σ ?_
  refine gd rfl (λK d=>?_) is
  refine uM eB rfl (.tmp 31) (.tmp 35) 30 rfl Tryz.underlying30 B rfl (G.out.fr (o.trans h)) _ _ rfl M.see ω (by have:=(o.trans h).size;omega) ?_
  intro v6 w6 z
  have A:=z.chg'.heap ((o.trans h).heap L.out) (G.out.ne_cells L.out δ)
  have D:=z.own
  have O:=z.chg'
  have I:=z.fresh
  obtain⟨a3,a4,rfl⟩:=D.shape'
  simp only[am]at D I
  have e6:=ag A 0 rfl
  have f6:=a8 A 0
  have R:=ad A
  refine d _ _ ?_
  refine ip (rs:=[6]) (by kernel_rfl) σ ?_
  refine gd rfl (λK d=>?_) is
  go_simp
  refine d _ _ ?_
  refine wpAnyIn_done (by kernel_rfl) ?_ _
  obtain⟨U,V,X,Y⟩:=tN G.out (o.trans h) R.out D O I
  exact HQ.out _ _ _ _ _ U V X Y
 refine gd rfl (λK d=>?_) is
 go_simp
 refine d _ _ ?_
 refine ip (rs:=[0,2]) (by kernel_rfl) σ ?_
 refine gd rfl (λK d=>?_) ?_
 ·go_simp
  refine d _ _ ?_
  refine ip (rs:=[2]) (by kernel_rfl) σ ?_
  refine gd rfl (λK d=>?_) is
  go_simp
  refine d _ _ ?_
  refine ip (rs:=[3]) (by kernel_rfl) σ ?_
  refine gd rfl (λK d=>?_) is
  go_simp
  refine d _ _ ?_
  refine ip (rs:=[4]) (by kernel_rfl) σ ?_
  refine gd rfl (λK d=>?_) is
  go_simp
  refine⟨trivial,by simp[Fence.wide],(uyQb Z (lg.2 (aa.out _))).mono ?_⟩
  rintro e w5 ⟨v5,rfl,M,h⟩
  have c5:=(o.trans h).cell c0
  refine d _ _ ?_
  refine ip (rs:=[5]) (by kernel_rfl) σ ?_
  refine gd rfl (λK d=>?_) is
  refine uM eB rfl (.tmp 31) (.tmp 35) 30 rfl Tryz.underlying30 B rfl (G.out.fr (o.trans h)) _ _ rfl M.see ω (by have:=(o.trans h).size;omega) ?_
  intro v6 w6 z
  have A:=z.chg'.heap ((o.trans h).heap L.out) (G.out.ne_cells L.out δ)
  have D:=z.own
  have O:=z.chg'
  have I:=z.fresh
  obtain⟨a3,a4,rfl⟩:=D.shape'
  simp only[am]at D I
  have e6:=ag A 0 rfl
  have f6:=a8 A 0
  have R:=ad A
  refine d _ _ ?_
  refine ip (rs:=[6]) (by kernel_rfl) σ ?_
  refine gd rfl (λK d=>?_) is
  go_simp
  refine d _ _ ?_
  refine wpAnyIn_done (by kernel_rfl) ?_ _
  obtain⟨U,V,X,Y⟩:=tN G.out (o.trans h) R.out D O I
  exact HQ.out _ _ _ _ _ U V X Y
 refine gd rfl (λK d=>?_) is
 go_simp
 refine d _ _ ?_
 refine ip (rs:=[0,3]) (by kernel_rfl) σ ?_
 refine gd rfl (λK d=>?_) ?_
 ·go_simp
  refine d _ _ ?_
  refine ip (rs:=[3]) (by kernel_rfl) σ ?_
  refine gd rfl (λK d=>?_) is
  go_simp
  refine d _ _ ?_
  refine ip (rs:=[4]) (by kernel_rfl) σ ?_
  refine gd rfl (λK d=>?_) is
  go_simp
  refine⟨trivial,by simp[Fence.wide],(uyQb Z (lg.2 (aa.out _))).mono ?_⟩
  rintro e w5 ⟨v5,rfl,M,h⟩
  have c5:=(o.trans h).cell c0
  refine d _ _ ?_
  refine ip (rs:=[5]) (by kernel_rfl) σ ?_
  refine gd rfl (λK d=>?_) is
  refine uM eB rfl (.tmp 31) (.tmp 35) 30 rfl Tryz.underlying30 B rfl (G.out.fr (o.trans h)) _ _ rfl M.see ω (by have:=(o.trans h).size;omega) ?_
  intro v6 w6 z
  have A:=z.chg'.heap ((o.trans h).heap L.out) (G.out.ne_cells L.out δ)
  have D:=z.own
  have O:=z.chg'
  have I:=z.fresh
  obtain⟨a3,a4,rfl⟩:=D.shape'
  simp only[am]at D I
  have e6:=ag A 0 rfl
  have f6:=a8 A 0
  have R:=ad A
  refine d _ _ ?_
  refine ip (rs:=[6]) (by kernel_rfl) σ ?_
  refine gd rfl (λK d=>?_) is
  go_simp
  refine d _ _ ?_
  refine wpAnyIn_done (by kernel_rfl) ?_ _
  obtain⟨U,V,X,Y⟩:=tN G.out (o.trans h) R.out D O I
  exact HQ.out _ _ _ _ _ U V X Y
 refine gd rfl (λK d=>?_) is
 go_simp
 refine d _ _ ?_
 refine ip (rs:=[0,4]) (by kernel_rfl) σ ?_
 refine gd rfl (λK d=>?_) ?_
 ·go_simp
  refine d _ _ ?_
  refine ip (rs:=[4]) (by kernel_rfl) σ ?_
  refine gd rfl (λK d=>?_) is
  go_simp
  refine⟨trivial,by simp[Fence.wide],(uyQb Z (lg.2 (aa.out _))).mono ?_⟩
  rintro e w5 ⟨v5,rfl,M,h⟩
  have c5:=(o.trans h).cell c0
  refine d _ _ ?_
  refine ip (rs:=[5]) (by kernel_rfl) σ ?_
  refine gd rfl (λK d=>?_) is
  refine uM eB rfl (.tmp 31) (.tmp 35) 30 rfl Tryz.underlying30 B rfl (G.out.fr (o.trans h)) _ _ rfl M.see ω (by have:=(o.trans h).size;omega) ?_
  intro v6 w6 z
  have A:=z.chg'.heap ((o.trans h).heap L.out) (G.out.ne_cells L.out δ)
  have D:=z.own
  have O:=z.chg'
  have I:=z.fresh
  obtain⟨a3,a4,rfl⟩:=D.shape'
  simp only[am]at D I
  have e6:=ag A 0 rfl
  have f6:=a8 A 0
  have R:=ad A
  refine d _ _ ?_
  refine ip (rs:=[6]) (by kernel_rfl) σ ?_
  refine gd rfl (λK d=>?_) is
  go_simp
  refine d _ _ ?_
  refine wpAnyIn_done (by kernel_rfl) ?_ _
  obtain⟨U,V,X,Y⟩:=tN G.out (o.trans h) R.out D O I
  exact HQ.out _ _ _ _ _ U V X Y
 refine gd rfl (λK d=>?_) is
 go_simp
 refine⟨trivial,by simp[Fence.wide],(uyQb Z (lg.2 (aa.out _))).mono ?_⟩
 rintro e w5 ⟨v5,rfl,M,h⟩
 have c5:=(o.trans h).cell c0
 refine d _ _ ?_
 refine ip (rs:=[0]) (by kernel_rfl) σ ?_
 refine gd rfl (λK d=>?_) is
 go_simp
 refine d _ _ ?_
 refine ip (rs:=[5]) (by kernel_rfl) σ ?_
 refine gd rfl (λK d=>?_) is
 refine uM eB rfl (.tmp 31) (.tmp 35) 30 rfl Tryz.underlying30 B rfl (G.out.fr (o.trans h)) _ _ rfl M.see ω (by have:=(o.trans h).size;omega) ?_
 intro v6 w6 z
 have A:=z.chg'.heap ((o.trans h).heap L.out) (G.out.ne_cells L.out δ)
 have D:=z.own
 have O:=z.chg'
 have I:=z.fresh
 obtain⟨a3,a4,rfl⟩:=D.shape'
 simp only[am]at D I
 have e6:=ag A 0 rfl
 have f6:=a8 A 0
 have R:=ad A
 refine d _ _ ?_
 refine ip (rs:=[6]) (by kernel_rfl) σ ?_
 refine gd rfl (λK d=>?_) is
 go_simp
 refine d _ _ ?_
 refine wpAnyIn_done (by kernel_rfl) ?_ _
 obtain⟨U,V,X,Y⟩:=tN G.out (o.trans h) R.out D O I
 exact HQ.out _ _ _ _ _ U V X Y
attribute [local go_sem] ze
def U2{w:World}{v:Value}{l:List Z0}{b m n:Nat}(z:1<=n)(h:ah w eS v l)(A:l=[]\/∃o,v=.slice (some ⟨b,m,none⟩) l.length o)(j:Nat)(D:j<aH l.length n):ah w eS (kA b m l.length n j).v ((l.drop (j*n)).take n):=by
 have G:=(qY l.length n z j).1 D;rcases A with rfl | ⟨o,rfl⟩;·simp at G
 ·obtain⟨_,_,I,K,L,_⟩:=h.shape;cases I;have d:=Ae h (j*n) (min n (l.length-j*n)) (min n (l.length-j*n)) ω (al _) ω;rw[show(eS:aw Tryz.prog Z0).k=1 from rfl,eo]at d;have J:(l.drop (j*n)).take (min n (l.length-j*n))=(l.drop (j*n)).take n:=by
   rcases Nat.le_total n (l.length-j*n)with e | e;·rw[fI e]
   ·rw[rq e,cw σ,cw (by simp;omega)]
  rw[J]at d;exact d
def yW{α:Type}(m:World)(H B n:Nat)(o:Value)(z:Z0)(A D:α->Z0)(h:List α)(W:World):Prop:=
 ∃e d,W.heap[H]?=some (.cells #[e] 30 (0,0))/\W.heap[H+1]?=some (.cells #[d] 30 (0,0))/\W.heap[H+1+1]?=some (.cells #[o] 81 (0,0))/\W.heap[H+1+1+1]?=some (.cells #[N n] 3 (0,0)) /\
  Ow W B eB e (z++(h.map A).flatten)/\Ow W B eB d (h.map D).flatten/\(d.ownBlock=none\/d.ownBlock≠e.ownBlock)/\Fr m W
def yW.own{α:Type}(A:World)(H B n D:Nat)(J:Value)(K:Z0)(L M:α->Z0)(hD:A.heap.size<=D):OwnFrom D (yW A H B n J K L M):=by
 rintro s W O ak ⟨Q,R,U,V,X,Y,Z,h6,h7,h8⟩ d h;have m:∀ {q:Nat} {o:Obj},W.heap[q]?=some o->o.isCells=true->O.heap[q]?=some o:=λ{q o} z ho=>by
  rw [d.block q (aR.1 z).1 (fun e => by
    obtain ⟨_, o', G, I⟩ := h q e.symm
    rw[z] at G; cases G; rw[ho] at I; cases I)]
  exact z
 refine⟨Q,R,m U rfl,m V rfl,m X rfl,m Y rfl,nw Z d (λr e=>(h r e).2),nw h6 d (λr e=>(h r e).2),h7,?_⟩;exact h8.own d (λk e=>by have:=(h k e).1;omega)
def O8(l:List Z0)(n:Nat)(d:1<=n)(z:n<=64)(A:l.length<=10000)(h:∀s∈l,s.length<=25)(e:List (Fin (aH l.length n)))(D:e.length<aH l.length n):((e.map λj:Fin (aH l.length n)=>ao (aZ ((l.drop (j.val*n)).take n)).length).flatten).length<=100630:=by
 rw[kR];refine ay (oB _ 10 _ λj _=>?_) ?_;·have G:=qZ 25 ω ((l.drop (j.val*n)).take n) (λs m=>h s (s7 (fZ m)));have o:((l.drop (j.val*n)).take n).length*(25+20)<=64*45:=bH (by rw[aA];omega) (al _);exact cJ _ ω
 ·have I:=tS l.length n d;have o:aH l.length n*1<=aH l.length n*n:=oj _ d;omega
def O9(l:List Z0)(n:Nat)(e:1<=n)(A:n<=64)(D:l.length<=10000)(h:∀s∈l,s.length<=25)(d:List (Fin (aH l.length n)))(G:d.length<aH l.length n):((d.map λj:Fin (aH l.length n)=>aZ ((l.drop (j.val*n)).take n)).flatten).length<=452880:=by
 rw[kR];refine ay (oB _ (45*n) _ λj _=>?_) ?_;·have I:=qZ 25 ω ((l.drop (j.val*n)).take n) (λs m=>h s (s7 (fZ m)));have o:((l.drop (j.val*n)).take n).length*(25+20)<=n*45:=bH (by rw[aA];omega) (al _);have z:45*n=n*45:=dX _ _;omega
 ·have J:=tS l.length n e;have o:d.length*(45*n)<=aH l.length n*(45*n):=bQ _ ω;have z:aH l.length n*(45*n)=45*(aH l.length n*n):=(by rw[rp]);omega
def yg{β:Type}(M:Nat)(f:Nat->β):(List.finRange M).map (λj:Fin M=>f j.val)=(List.range M).map f:=by
 apply gT;·simp
 ·intro i d e;simp
def XI(n:Nat)(O:1<=n)(a6:n<=64)(v:Value)(l:List Z0)(w:World)(hs:ah w eS v l)(G:uH l)(hl:l.length<=10000):Calls Tryz.prog 70 #[N n,v] w λe w'=>∃u,e=.returned (.tuple #[u,.int .i64 0])/\Ow w' w.heap.size eB u (lA n l)/\Fr w w':=by
 obtain⟨L,M,rfl,fD,fN,fP⟩:=hs.shape;have HS:=ad hs;have b3:∀s∈l,s.length<=25:=λs h=>(G.2.1 s h).2;have HM:=ad (Tw _ l w hs G);have ds:=ad (rf l.length ω);have fQ:=cJ l.length ω;have dv:=ad (λj=>G8 l n j O a6 hl b3);have d0:=ad (λj=>IC l n j O a6 hl b3);have HB:=ad b3;have HD:Hid (lA n l=(ao l.length++((ek l n).map λc=>ao (aZ c).length).flatten)++((ek l n).map aZ).flatten):=rfl;generalize ao l.length=nb,lA n l=T at *;have j1:¬(n:Int)<1:=ω
 have j2:¬(64:Int)<n:=ω
 have d2:=ad (λW=>U5 L l.length M n O W);refine(lg (n:=9)).1 ?_;refine callsIn_of_wp_marks Tryz.func70 rfl trivial ?_ rfl;simp only[Tryz.ntmps70,ou,aL,gS,Nat.reduceAdd,Nat.reduceSub,u9,uz,un,ux,fJ,lm];have gb:Fence.wide.fn 110:=trivial;have gc:Fence.wide.fn 65:=trivial;have ge:Fence.wide.fn 111:=trivial
 gi_wp2_with (first
   | (gi_at_call 110; refine (lg.2 HM.out).mono ?_; rintro e w1 ⟨rfl, rfl⟩)
   | (gi_at_call 65; refine (lg.2 (ds.out _)).mono ?_; rintro e d ⟨v2, rfl, cf, ch⟩; obtain ⟨Q, R, d3⟩ := cf.shape'; subst d3)
   | (gi_at_call 111; refine (lg.2 (d2.out _)).mono ?_; rintro e w3 ⟨rfl, rfl⟩))
 have cj:(d.alloc (.cells #[.slice Q nb.length R] 30)).heap.size=d.heap.size+1:=eW _ _;have ck:((d.alloc (.cells #[.slice Q nb.length R] 30)).alloc (.cells #[.slice none 0 0] 30)).heap.size=d.heap.size+1+1:=by rw[eW,cj]
 have d4:(((d.alloc (.cells #[.slice Q nb.length R] 30)).alloc (.cells #[.slice none 0 0] 30)).alloc (.cells #[.slice L l.length M] 81)).heap.size=d.heap.size+1+1+1:=by rw[eW,ck]
 have cl:Fr d (d.alloc (.cells #[.slice Q nb.length R] 30)):=(Fr.refl d).alloc _;have g0:=aB d (.cells #[.slice Q nb.length R] 30) d.heap.size rfl;generalize d.alloc (.cells #[.slice Q nb.length R] 30)=A1 at *;have b5:Fr A1 (A1.alloc (.cells #[.slice none 0 0] 30)):=(Fr.refl A1).alloc _;have g1:=aB A1 (.cells #[.slice none 0 0] 30) (d.heap.size+1) cj.symm;generalize A1.alloc (.cells #[.slice none 0 0] 30)=A2 at *;have aC:Fr A2 (A2.alloc (.cells #[.slice L l.length M] 81)):=(Fr.refl A2).alloc _;have g2:=aB A2 (.cells #[.slice L l.length M] 81) (d.heap.size+1+1) ck.symm;generalize A2.alloc (.cells #[.slice L l.length M] 81)=A3 at *;have ap:Fr A3 (A3.alloc (.cells #[N n] 3)):=(Fr.refl A3).alloc _;have g3:=aB A3 (.cells #[N n] 3) (d.heap.size+1+1+1) d4.symm;generalize A3.alloc (.cells #[N n] 3)=A4 at *;have bf:=ch.trans (cl.trans (b5.trans (aC.trans ap)));have k0:=ap.heap (aC.heap (b5.heap g0));have k1:=ap.heap (aC.heap g1);have k2:=ap.heap g2;have ef:=cf.fr (cl.trans (b5.trans (aC.trans ap)));have gv:=(aR.1 g3).1;have g4:=ch.size;generalize d.heap.size=H at *;obtain⟨cb,cp,el,eq⟩:=U3 (H+1+1) (H+1+1+1) (.slice L l.length M) l n O ω ω A4 k2 g3 (HS.out.fr bf);have HX:=ad (λW (h:Fr w W) j hj=>U2 O (HS.out.fr h) el j hj)
 have h0:yW w H w.heap.size n (.slice L l.length M) nb (λj:Fin (aH l.length n)=>ao (aZ ((l.drop (j.val*n)).take n)).length) (λj:Fin (aH l.length n)=>aZ ((l.drop (j.val*n)).take n)) [] A4:=
  ⟨_,_,k0,k1,k2,g3,by simpa using ef,by simpa using Ow.nil,.inl rfl,bf⟩
 refine wpIn_rangeFunc_ownF rfl ω (gf:=157) (lb:=#[.pointer (some ⟨H+1+1,0,none⟩),.pointer (some ⟨H+1+1+1,0,none⟩)]) rfl trivial (enters_of Tryz.func157 (by kernel_rfl) rfl) (eq _ ω) (λh k=>eA.trans h k) (eA.put ω ω) (Below.refl _ A4) (λ_=>rfl)
  _ (λ_ _ _=>False) (yW.own w H w.heap.size n A4.heap.size _ nb _ _ bf.size) (λ_ _ _ _ _ hs _ _=>hs) h0 (λx=>B0 n l.length nb.length L M Q R H (kA cb cp l.length n x.val).v (kA cb cp l.length n x.val).v undef undef undef undef undef undef undef undef undef undef undef undef) ?assign ?body ?done ?stop
 case assign=>intro l x W K hK;gi_wp2;exact hK
 case body=>
  rintro lr av x W ⟨hv,bv,V,h2,h3,h4,I,X,m,Y⟩ ct;have cu:=HX.out W Y x.val x.isLt;have g5:=(qY l.length n O x.val).1 x.isLt;have g6:=O8 l n O a6 hl HB.out av ct;have e0:=O9 l n O a6 hl HB.out av ct;obtain⟨c,hc⟩:∃c,c=(l.drop (x.val*n)).take n:=⟨_,rfl⟩;have e1:c.length<=n/\c≠[]:=(by rw[hc];refine⟨by rw[aA];omega,λe=>?_⟩;have:=dp List.length e;simp at this;omega);have cv:∀s∈c,s.length<=25:=λs h=>HB.out s (by rw[hc]at h;exact s7 (fZ h));rw[<- hc]at cu;have c3:=ad hc;have e3:=ad (Vc _ c W cu e1.2 cv ω);have g7:(aZ c).length<=64*45:=(by have V:=qZ 25 ω c cv;have h3:c.length*(25+20)<=64*45:=bH ω (al _);omega);generalize e4:aZ c=bk at *;have c4:=ad e4;have g8:Fence.wide.fn 112:=trivial
  gi_wp2_with (first
    | (gi_at_call 112; refine (uyQb lr (lg.2 e3.out)).mono ?_; rintro e w5 ⟨u5, rfl, b8, z⟩; obtain ⟨ua, uc, hu⟩ := b8.shape'; subst hu))
  have fa:=Y.size;refine Tu lr _ n l.length nb.length L M Q R H w.heap.size _ _ _ _ ua bk.length uc hv (nb++(av.map λj:Fin (aH l.length n)=>ao (aZ ((l.drop (j.val*n)).take n)).length).flatten) w5 _ (z.heap V) (I.fr z) (ay fa z.size) ω (by rw[am];omega) ?_;intro w6 c5 hb he hf q1 q2 Z q4;have n1:=I.ne_cells h2 δ;have n2:=I.ne_cells h3 δ;have n3:=I.ne_cells h4 δ;have n4:=X.ne_cells V δ
  have r2 := Z.heap (z.heap h2) (by rintro (e | e); · omega
                                    · exact n1 e)
  have r3 := Z.heap (z.heap h3) (by rintro (e | e); · omega
                                    · exact n2 e)
  have r4 := Z.heap (z.heap h4) (by rintro (e | e); · omega
                                    · exact n3 e)
  have J := (X.fr z).chg Z (fun k G => by
    rintro (e | e);·exact n4 (by rw[G, e])
    · rcases m with m | m;·rw[m] at G; cases G
      · exact m (by rw[G, e]))
  have fm := b8.chg Z (fun k G => by
    have i1 := (b8.lt k G).1;rintro (e | e);·have := (aR.1 V).1; omega
    · have := (I.lt k e).2; omega)
  have cA:bv.ownBlock=none\/bv.ownBlock≠c5.ownBlock:=by
   cases bs:bv.ownBlock with
   | none=>exact .inl rfl
   | some g=>
    refine .inr λe=>?_;rcases q4 g e.symm with e2 | e2
    ·rcases m with m | m;·rw[m]at bs;cases bs
     ·exact m (by rw[bs,e2])
    ·have:=(X.lt g bs).2;have:=z.size;omega
  have bA : Fr w w6 := ai.below (Y.trans z) Z (Y.trans z).size (fun i e => by
    rcases e with e | e;·omega
    · have := (I.lt i e).1; omega)
  obtain⟨bd,bB⟩:∃ bd,bd=(av.map fun j:Fin (aH l.length n)=>aZ ((l.drop (j.val*n)).take n)).flatten:=⟨_,rfl⟩;rw [<- bB]at J e0 X;have fn:=ad bB;clear bB;obtain⟨ba,bc,rfl⟩:=J.shape';have c1:=ag r2 0 rfl;have cE:=ad q1;have bx:=ad r2;have b0:=ad r3;have b1:=ad r4;have f0 : KeepsOthers W w6 := (tE (z.chg (fun _ => False)) (fun _ _ _ e => e.elim)).trans (tE Z (fun k o ho e => by
    rcases e with e | e;·have hx := z.heap V; rw[← e, ho] at hx; cases hx; rfl
    · exact tw (I.fr z) e ho))
  have f1:W.heap[H+1+1]?=w6.heap[H+1+1]? /\ W.heap[H+1+1+1]?=w6.heap[H+1+1+1]?:=⟨h3.trans r3.symm,h4.trans r4.symm⟩;have bL:=ad (And.intro f0 f1);gi_wp2_with (gi_at_builtin;refine CR eB rfl (.tmp 37) (.tmp 38) 30 rfl Tryz.underlying30 _ rfl J _ _ rfl fm.see (by omega) bA.size ?_);intro v7 w7 aa;obtain⟨hn,hp,rfl⟩:=aa.own.shape';have m2:=aa.chg'.heap bx.out (J.ne_cells bx.out (by decide));have e7:=ag m2 0 rfl;have f7:=a8 m2 0;gi_wp2;have o7:=aa.own;have cG:=aa.fresh;simp only [am]at o7 cG;obtain⟨s1,s2,U,s4⟩:=tN J (Fr.refl w6) m2 o7 aa.chg' cG;have p1:=J.ne_cells cE.out (by decide);have p3:=J.ne_cells b0.out (by decide);have p4:=J.ne_cells b1.out (by decide);have p5:=q2.ne_cells bx.out (by decide);have cN:=aa.apart q2 (qR cA);simp only [am]at cN;refine ⟨bL.out.1.trans (tE U (fun k o ho e => by
    rcases e with e | e;·have hx := bx.out; rw[← e, ho] at hx; cases hx; rfl
    · exact tw J e ho)), ?_, c5, _, ?_, s1, ?_, ?_, ?_, ?_, qR cN, ?_⟩
  ·refine⟨?_,?_⟩
   ·rw [U.heap b0.out (by rintro (e | e); · omega
                          · exact p3 e), bL.out.2.1]; exact b0.out.symm
   ·rw [U.heap b1.out (by rintro (e | e); · omega
                          · exact p4 e), bL.out.2.2]; exact b1.out.symm
  ·exact U.heap cE.out (by rintro (e | e); · omega
                           · exact p1 e)
  ·exact U.heap b0.out (by rintro (e | e); · omega
                           · exact p3 e)
  ·exact U.heap b1.out (by rintro (e | e); · omega
                           · exact p4 e)
  ·have := q2.chg U (fun k G => by
     rintro (e | e);·exact p5 (by rw[G, e])
     · rcases cA with m | m;·rw[m] at e; cases e
       · exact m (by rw[G, e]))
   rw[eD,oz,List.map_singleton,List.flatten_singleton,<- c3.out,c4.out,<- bG];exact this
  ·rw[eD,oz,List.map_singleton,List.flatten_singleton,<- c3.out,c4.out,<- fn.out];exact s2
  ·exact ai.below bA U bA.size (fun i e => by
     rcases e with e | e;·omega
     · have := (J.lt i e).1; omega)
 case done=>
  rintro D ys W hD rfl ⟨hv,bv,V,h2,h3,h4,I,X,m,Y⟩ hK;have HT:Hid (T=(nb++((List.finRange (aH l.length n)).map λj:Fin (aH l.length n)=>ao (aZ ((l.drop (j.val*n)).take n)).length).flatten)++((List.finRange (aH l.length n)).map λj:Fin (aH l.length n)=>aZ ((l.drop (j.val*n)).take n)).flatten):=(by rw[HD.out,yg (aH l.length n) (λj=>ao (aZ ((l.drop (j*n)).take n)).length),yg (aH l.length n) (λj=>aZ ((l.drop (j*n)).take n))];unfold ek;simp only[jE];rfl);have f5:(((List.finRange (aH l.length n)).map λj:Fin (aH l.length n)=>ao (aZ ((l.drop (j.val*n)).take n)).length).flatten).length<=100630:=(by have:=dv.out (aH l.length n);rw[cw (by rw[qg];exact al _)]at this;rw[yg (aH l.length n) (λj=>ao (aZ ((l.drop (j*n)).take n)).length)];unfold ek at this;simp only[jE]at this;exact this);have hy:(((List.finRange (aH l.length n)).map λj:Fin (aH l.length n)=>aZ ((l.drop (j.val*n)).take n)).flatten).length<=452880:=(by have:=d0.out (aH l.length n);rw[cw (by rw[qg];exact al _)]at this;rw[yg (aH l.length n) (λj=>aZ ((l.drop (j*n)).take n))];unfold ek at this;simp only[jE]at this;exact this);generalize ((List.finRange (aH l.length n)).map λj:Fin (aH l.length n)=>aZ ((l.drop (j.val*n)).take n)).flatten=bd,((List.finRange (aH l.length n)).map λj:Fin (aH l.length n)=>ao (aZ ((l.drop (j.val*n)).take n)).length).flatten=hd at *;obtain⟨hh,bT⟩:∃hh,hh=nb++hd:=⟨_,rfl⟩;rw[<- bT]at I HT;have hz:hh.length<=100640:=(by rw[bT,am];omega);clear bT f5;obtain⟨ha,hc,rfl⟩:=I.shape';obtain⟨ba,bc,rfl⟩:=X.shape';have c0:=ag V 0 rfl;have c1:=ag h2 0 rfl;have cT:=ad (BX _ _ hh bd W I.see X.see ω);rw[<- HT.out]at cT;have f9:=ad hK;have hB:Fence.wide.fn 42:=trivial;gi_wp2_with (gi_at_call 42;refine(lg.2 cT.out).mono ?_;rintro e w8 ⟨v8,rfl,dc,di⟩);have ca:=di.heap f9.out;obtain⟨fB,fC,rfl⟩:=dc.shape';refine⟨σ,.inl ⟨_,_,rfl,zd ca,?_⟩⟩;refine⟨.tuple #[.slice fB T.length fC,.int .i64 0],by simp[results,Tryz.results70,go_sem, *],_,rfl,?_,?_⟩;·exact nw (dc.rebase Y.size) (wg w8 D (.deferred none)) (λr e=>by cases e;exact⟨_,ca,rfl⟩)
  ·exact Below.trans (Y.trans di) (belowK_b (w:=w) (al _) w8 D _ _ (ay bf.size hD) ca rfl rfl)
 case stop=>rintro D c av W hD _ h _;exact h.elim
