/- Part 12 of the proof of CallsShallow (its last part says what is proved). No condition. -/
import Derived.Test.YtncdbjponknakaaGreatDoorK10
namespace Go.Proofs.YtncdbjponknakaaGreatDoor
set_option maxRecDepth 100000
set_option maxHeartbeats 8000000
open Go.RowKit Go.Proofs.Tryz
section
structure zG {α:Type}(E:cO α):Prop where
 any:∀ {S T:Nat→Prop} {w w':World} {cs:List Value} {x:α},E S w cs x→E T w' cs x
 one:∀ {S:Nat→Prop} {w:World} {cs:List Value} {x:α},E S w cs x→∀u∈cs,u.oneCell'=true
section
variable {α:Type} {n bw:Nat} {E:cO α}
theorem BT:∀(l:List (List Value)),(∀c∈l,c.length=n)→∀(j:Nat) u,l.flatten[j]? =some u→∃i r cs,l[i]? =some cs∧cs[r]? =some u∧j=i*n+r
 | [],_,j,u,h=>by simp at h
 |c::l,o,j,u,h=>by(
 rw[List.flatten_cons] at h;have Z:=o c (List.mem_cons_self ..);by_cases C:j<c.length
 ·rw[ma C] at h
  exact⟨0,j,c,rfl,h,by omega⟩
 rw[kH (by omega)] at h;obtain⟨i,r,cs,J,R,h3⟩:=BT l (fun d Y=>o d (List.mem_cons_of_mem _ Y)) _ u h;exact⟨i+1,r,cs,by simpa using J,R,by rw[Nat.succ_mul];omega⟩)
theorem xn {S:Nat→Prop}{w:World}{A:Option Addr}{m c:Nat}{l:List α}(h:rx n bw E S w (.slice A m c) l):m=l.length∧m≤maxLen∧l.length*bw≤140737488355328∧∃C:List (List Value),C.length=l.length∧(∀cs∈C,cs.length=n)∧(∀(i:Nat) x,l[i]? =some x→∃cs,C[i]? =some cs∧E S w cs x)∧
 (0<m→∃b off,A=some ⟨b,off,none⟩∧∀(j:Nat) u,C.flatten[j]? =some u→w.cell? ⟨b,off+j,none⟩=some u):=by
 obtain⟨a,cap,hv,h1,h2,h3,h⟩:=h;injection hv with e1 e2 e3;subst e1;subst e2;subst e3;have hc:∀i:Nat,∃cs:List Value,∀x,l[i]? =some x→cs.length=n∧E S w cs x∧∃b off,A=some ⟨b,off,none⟩∧∀(j:Nat) u,cs[j]? =some u→w.cell? ⟨b,off+i*n+j,none⟩=some u:=by(
 intro i;cases hi:l[i]? with
 |none=>exact⟨[],fun x hx=>by cases hx⟩
 |some x=>obtain⟨b,off,cs,ha,_,hl,o,hE⟩:=h i x hi;exact⟨cs,fun y hy=>by cases hy;exact⟨hl,hE,b,off,ha,o⟩⟩)
 obtain⟨f,R⟩:=Classical.axiomOfChoice hc;refine⟨rfl,by omega,h3,(List.range l.length).map f,by simp,fun cs J=>?_,fun i x hx=>?_,fun hp=>?_⟩
 ·obtain⟨i,hi,rfl⟩:=dr.1 J
  exact(R i _ (lG (fg.1 hi))).1
 ·have hi:=(lS.1 hx).1
  exact⟨f i,by rw[cL,ln hi];rfl,(R i x hx).2.1⟩
 obtain⟨b,off,ha,_⟩:=(R 0 _ (lG hp)).2.2;refine⟨b,off,ha,fun j u hu=>?_⟩;obtain⟨i,r,cs,h4,h5,rfl⟩:=BT _ (fun cs J=>by obtain⟨i,hi,rfl⟩:=dr.1 J;exact(R i _ (lG (fg.1 hi))).1) j u hu;rw[cL] at h4;obtain⟨k,hk,rfl⟩:=oE.1 h4;have Y:i<l.length:=by have:=(lS.1 hk).1;simpa using this
 rw[ln Y] at hk;cases hk;obtain⟨b',a1,Z,o⟩:=(R i _ (lG Y)).2.2;rw[ha] at Z;cases Z;have:=o r u h5;rwa [Nat.add_assoc] at this
theorem rB {E:bT α}{S:Nat→Prop}{w:World}{v:Value}{l:List α}(h:Sl bw E S w v l):rx 1 bw (eT E) S w v l:=by
 obtain⟨a,cap,rfl,C,J,R,h⟩:=h;refine⟨a,cap,rfl,C,J,R,fun i x Y=>?_⟩;obtain⟨b,off,u,e,Z,hc,hE⟩:=h i x Y;exact⟨b,off,[u],e,Z,rfl,fun j c o=>by
  rcases j with _|j;·cases o;rw[Nat.mul_one,dj];exact hc
  simp at o,u,rfl,hE⟩
theorem gx {P:Program}(w:World){ops:Array Oper}{rest:List Oper}{o:Oper}{a:Act}{Q:Exit→Act→World→Prop}(g:zG E)(a7:o.guard=none)(s x:Operand)(t:TypeId)
 (ho:o.op=.call {callee:=.builtin .append,args:=#[s,x],argTypes:=#[t,t]})
 (e:TypeId) (i:TypeInfo) (z:Value) (ht:P.underlying t=some (.slice e)) (hi:P.info? e=some i) (hz:i.zero=some z)
 (C:i.size=n) (a8:i.bytes=bw) (b0:z.cells.size=n) (b1:0<n)
 (B R:Nat) (hs:a.eval s=.slice (some ⟨R,0,none⟩) 0 0) (hg:al w R e #[]) (hB:B≤R) {S:Nat→Prop} {A:Option Addr} {m c:Nat} {l:List α} (hx:a.eval x=.slice A m c) (b2:rx n bw E S w (.slice A m c) l)
 (h:∀A' c' Y,rx n bw E (fun b=>B≤b∧b<Y.heap.size) Y (.slice A' l.length c') l→w.grownBy Y (some R)→wpList P ops Q rest (a.put o.dst (.slice A' l.length c')) Y):wpList P ops Q (o::rest) a w:=by
 obtain⟨hm,b7,Z,j,h1,h2,h3,h4⟩:=xn b2;have b3:j.flatten.length=m*n:=by
  have:∀L:List (List Value),(∀c∈L,c.length=n)→L.flatten.length=L.length*n:=by(
 intro L;induction L with
 |nil=>intro _;simp
 |cons c L ih=>intro hL;rw[List.flatten_cons,iQ,kI,Nat.succ_mul,ih fun d hd=>hL d (List.mem_cons_of_mem _ hd),hL c (List.mem_cons_self ..)];omega)
  rw[this j h2,h1,hm]
 have b4:∀u∈j.flatten,u.oneCell'=true:=by intro u hu;obtain⟨cs,b5,hu⟩:=List.mem_flatten.1 hu;obtain⟨k,hk⟩:=cY.1 b5;have b8:=(lS.1 hk).1;obtain⟨b9,a1,hE⟩:=h3 k _ (lG (by omega));rw[hk] at a1;cases a1;exact g.one hE u hu
 have a6:w.ownsRow B e n (.slice (some ⟨R,0,none⟩) 0 0) 0 []:=⟨by simp,.inr ⟨R,0,#[],rfl,hB,hg,cf _,Nat.zero_le _,by simp,by simp⟩⟩;have c0:=hg.lt;refine aR w a7 s x t ho B e i z n bw ht hi hz C a8 b0 b1 _ 0 [] hs a6 A m c j.flatten hx b3 h4 b4 (by omega) (by rw[cN,hm];exact Z) (by omega) fun v' Y J b6 _=>?_;rw[cN,mF,hm] at J;obtain⟨A',c',rfl⟩:=aU J;refine h A' c' Y (dR.read (E:=E) (B:=B) (e:=e) ?_ ?_ Z) b6;·exact⟨fun _ hh=>g.any hh,fun _ hh=>g.any hh⟩
 exact⟨j,fun _=>False,J,h1,h2,fun _ hh=>hh.elim,fun k y hy=>by obtain⟨cs,hc,hE⟩:=h3 k y hy;exact⟨cs,hc,g.any hE⟩⟩
end
theorem IL:zG (eT EQ):=⟨fun⟨v,e,h⟩=>⟨v,e,h⟩,fun⟨v,e,h⟩ u hu=>by subst e;rw[cx.1 hu,h];rfl⟩
theorem IM:zG (eT Cz):=⟨fun⟨v,e,h⟩=>⟨v,e,h⟩,fun⟨v,e,h⟩ u hu=>by subst e;rw[cx.1 hu,h];rfl⟩
theorem BR:zG (eT rQ):=⟨fun⟨v,e,h⟩=>⟨v,e,h⟩,fun⟨v,e,h⟩ u hu=>by subst e;rw[cx.1 hu,h.1];rfl⟩
theorem yl:zG uy:=⟨fun h=>h,fun h u hu=>by rw[h.1] at hu;simp only[fX,List.not_mem_nil,or_false] at hu;rcases hu with rfl|rfl<;>rfl⟩
end
section
def No (N:Nat)(w:World)(v:Value)(n:Nat):Prop:=∃(g:Nat) (xs:List Int),v=.slice (some ⟨g,0,none⟩) n n∧N≤g∧al w g 2 (xs.map (Value.int .i64)).toArray∧xs.length=n∧∀x∈xs,aV x
theorem No.at {N:Nat}{w:World}{v:Value}{n:Nat}(h:No N w v n){i:Nat}(hi:i<n):∃g x,v=.slice (some ⟨g,0,none⟩) n n∧w.cell? ⟨g,i,none⟩=some (.int .i64 x)∧w.frozen? ⟨g,i,none⟩=false∧aV x:=by obtain⟨g,xs,rfl,_,j,o,hw⟩:=h;obtain⟨x,l⟩:∃x,xs[i]? =some x:=⟨_,lG (by omega)⟩;refine⟨g,x,rfl,?_,j.free i,hw x (mG l)⟩;rw[j.cell i];simp[l]
theorem No.form {N:Nat}{w:World}{v:Value}{n:Nat}(h:No N w v n):∃g,v=.slice (some ⟨g,0,none⟩) n n∧N≤g:=by obtain⟨g,xs,rfl,h,_⟩:=h;exact⟨g,rfl,h⟩
theorem No.made (N:Nat)(w:World)(n:Nat)(h:N≤w.heap.size):No N (w.alloc (.cells (Array.replicate n (.int .i64 0)) 2)) (.slice (some ⟨w.heap.size,0,none⟩) n n) n:=by
 refine⟨w.heap.size,List.replicate n 0,rfl,h,?_,by simp,fun x j=>?_⟩
 ·rw[show Array.replicate n (Value.int .i64 0)=((List.replicate n (0:Int)).map (Value.int .i64)).toArray by simp]
  exact al.new _ _ _
 rw[(List.mem_replicate.1 j).2];unfold aV;omega
def Sz (w:World)(b:Nat):Prop:=∃cs fr,w.heap[b]? =some (.cells cs 2 fr)
structure tq (N:Nat)(w w':World):Prop where
 kept:aa (fun b=>b<N∨¬Sz w b) w w'
 nums:∀v n,No N w v n→No N w' v n
section
variable {N:Nat} {w w' a b c:World}
theorem No.kept {v:Value}{n:Nat}(h:No N w v n)(k:aa All w w'):No N w' v n:=by obtain⟨g,xs,rfl,j,l,o,hw⟩:=h;exact⟨g,xs,rfl,j,l.kept k trivial,o,hw⟩
theorem tq.of_kept (k:aa All w w'):tq N w w':=⟨k.all,fun _ _ h=>h.kept k⟩
theorem tq.refl:tq N w w:=.of_kept kR
theorem tq.size (h:tq N w w'):w.heap.size≤w'.heap.size:=h.kept.size
theorem tq.trans (h:tq N a b)(k:tq N b c):tq N a c:=by
 refine⟨⟨k.kept.os.trans h.kept.os,k.kept.output.trans h.kept.output,fR h.kept.size k.kept.size,fun i hi j=>?_⟩,fun v n C=>k.nums v n (h.nums v n C)⟩;have o:=h.kept.block i hi j;have l:i<b.heap.size:=Nat.lt_of_lt_of_le hi h.kept.size;refine(k.kept.block i l ?_).trans o;rcases j with j|j;·exact .inl j
 refine .inr fun⟨cs,J,R⟩=>j ⟨cs,J,?_⟩;rw[←o];exact R
theorem tq.set (h:tq N a w){g i n:Nat}{v:Value}{x:Int}(Z:No N w v n)(e:v=.slice (some ⟨g,0,none⟩) n n)(hx:aV x):tq N a (w.setCell ⟨g,i,none⟩ (.int .i64 x)):=by
 obtain⟨R,xs,rfl,h1,hb,hn,hw⟩:=Z;injection e with e _ _;iterate 2 injection e with e
 subst e;refine h.trans ⟨⟨rfl,rfl,by simp,fun k hk C=>pI w _ _ k fun e=>?_⟩,fun v m hm=>?_⟩
 ·have e:k=R:=e;subst e;rcases C with C|C;·omega
  exact C ⟨_,_,hb⟩
 obtain⟨g2,J,rfl,Y,j,l,o⟩:=hm;by_cases e:g2=R
 ·subst e;refine⟨g2,J.set i x,rfl,Y,?_,by rw[List.length_set];exact l,fun y hy=>?_⟩
  ·have:=j.set i (.int .i64 x)
   rwa [show(J.map (Value.int .i64)).toArray.setIfInBounds i (.int .i64 x)=((J.set i x).map (Value.int .i64)).toArray by rw[List.setIfInBounds_toArray,List.map_set]] at this
  rcases List.mem_or_eq_of_mem_set hy with h|h;·exact o y h
  rw[h];exact hx
 exact⟨g2,J,rfl,Y,j.far e _,l,o⟩
theorem tq.keep (h:tq N a w)(k:aa All w w'):tq N a w':=h.trans (.of_kept k)
theorem tq.blk {g:Nat}{t:TypeId}{cs:Array Value}(h:tq N w w')(j:al w g t cs)(l:t≠2):al w' g t cs:=by refine j.kept h.kept (.inr fun⟨o,C,e⟩=>?_);unfold al at j;rw[j] at e;injection e with e;injection e with _ e;exact l e
theorem tq.row {base:Nat}{e:TypeId}{size n:Nat}{v:Value}{xs:List Value}(h:w.ownsRow base e size v n xs)(k:tq N w w')(j:e≠2):w'.ownsRow base e size v n xs:=by
 refine⟨h.1,?_⟩;rcases h.2 with l|⟨g,cap,cur,rfl,o,C,r⟩;·exact .inl l
 exact .inr ⟨g,cap,cur,rfl,o,k.blk (t:=e) C j,r⟩
end
def Nv (l:List bz):List bz:=l.filter fun x=>x.kind !=3
def NF (l:List bz):List bz:=l.filter fun x=>x.kind==3
def ct (x:bz)(a:Value):Value:=
 if x.kind=1 then .iface 130 (.agg #[.int .i64 x.dst,.int .i64 x.num])
 else if x.kind=2 then .iface 132 (.agg #[.int .i64 x.dst,.int .i64 (x.args.getD 0 0),.int .i64 (x.args.getD 1 0),.int .u8 x.op])
 else if x.kind=4∨x.kind=5 then .iface 134 (.agg #[.int .u8 x.kind,.int .i64 x.dst,.int .i64 x.ref,.int .i64 (x.args.getD 0 0),.int .i64 0])
 else if x.kind=6 then .iface 134 (.agg #[.int .u8 x.kind,.int .i64 0,.int .i64 x.ref,.int .i64 (x.args.getD 0 0),.int .i64 (x.args.getD 1 0)])
 else if x.kind=7 then .iface 136 (.agg #[.int .i64 x.dst,.int .i64 x.ref,a])
 else if x.kind=8 then .iface 138 (.agg #[.int .u8 x.kind,.int .i64 x.dst,.int .i64 x.ref,.int .i64 0,.int .i64 x.Nj])
 else if x.kind=9∨x.kind=10 then .iface 138 (.agg #[.int .u8 x.kind,.int .i64 x.dst,.int .i64 x.ref,.int .i64 (x.args.getD 0 0),.int .i64 x.Nj])
 else if x.kind=11 then .iface 140 (.agg #[.bool false,.int .i64 0,.int .i64 x.ref,.int .i64 0])
 else if x.kind=12 then .iface 140 (.agg #[.bool true,.int .i64 (x.args.getD 0 0),.int .i64 x.ref,.int .i64 x.Ni])
 else .iface 142 (.agg #[.int .i64 (x.args.getD 0 0)])
def Qf:bT bz:=fun S w v x=>∃a,v=ct x a∧aK S w a (if x.kind=7 then x.args else [])∧jx x
theorem PL:bT.Good Qf:=by
 constructor
 ·rintro S w w' v x k ⟨a,e,j,l⟩
  exact⟨a,e,ah.keep k j,l⟩
 rintro S T w v x k ⟨a,e,j,l⟩;exact⟨a,e,ah.wide k j,l⟩
def nq (w:World)(b:Nat)(l:List Int):Prop:=∃(D:DataW Unit) (n:Nat),w.ownsMap prog 3 (plainElem prog 3) b n D∧Maps.Tidy D∧n≤l.length∧∀k:Lit,∃x,D.atKey k (.lit (.int .i64 0))=.lit (.int .i64 x)∧(x=0∨x∈l)
def RZ:cO bz:=fun S w cs x=>∃b,cs=[.int .i64 x.dst,.map (some b)]∧S b∧nq w b x.args
theorem nq.lt {w:World}{b:Nat}{l:List Int}(h:nq w b l):b<w.heap.size:=by obtain⟨D,n,h,_⟩:=h;exact h.lt
theorem nq.keep {S:Nat→Prop}{w w':World}{b:Nat}{l:List Int}(h:nq w b l)(k:aa S w w')(o:S b):nq w' b l:=by obtain⟨D,n,h,C⟩:=h;have j:=h.lt;obtain⟨es,clock,J,r⟩:=h;exact⟨D,n,⟨es,clock,(k.block b j o).trans J,r⟩,C⟩
theorem Rd:cO.Good RZ:=by
 constructor
 ·rintro S w w' cs x k ⟨b,e,j,l⟩
  exact⟨b,e,j,l.keep k j⟩
 rintro S T w cs x k ⟨b,e,j,l⟩;exact⟨b,e,k _ j,l⟩
abbrev RK:=rx 2 16 RZ
theorem Om:bT.Good RK:=cH Rd
abbrev Qg:=Sl 16 Qf
theorem On:bT.Good Qg:=oR PL
def QS:cO (List bz):=fun S w cs l=>∃u v,cs=[u,v]∧RK S w u (NF l)∧Qg S w v (Nv l)
theorem NV:cO.Good QS:=by
 constructor
 ·rintro S w w' cs x k ⟨u,v,e,j,l⟩
  exact⟨u,v,e,Om.keep k j,On.keep k l⟩
 rintro S T w cs x k ⟨u,v,e,j,l⟩;exact⟨u,v,e,Om.wide k j,On.wide k l⟩
abbrev RC:=rx 2 48 QS
theorem NY:bT.Good RC:=cH NV
def QT:bT aw:=fun S w v b=>RC S w v b.Ng
theorem NQ:bT.Good QT:=⟨fun k h=>NY.keep k h,fun k h=>NY.wide k h⟩
abbrev SY:=Sl 24 QT
theorem OM:bT.Good SY:=oR NQ
structure sm where
 N:Nat
 mb:Nat
 bb:Nat
 tb:Nat
 W:World
 p:aH
 c:aE
 Nb:List (List Int)
 ca:Value
 cf:Value
 fv:Value
 av:Value
 allv:Value
 lv:Value
 uv:Value
 iv:Value
 ov:Value
 eb:Option Nat
def sm.S (M:sm):Nat→Prop:=fun b=>b<M.N∧b≠M.mb∧b≠M.bb∧b≠M.tb
structure iU (M:sm):Prop where
 code:bJ M.p M.c
 lo:M.N≤M.W.heap.size
 fns:SY M.S M.W M.fv M.c.Nf
 bods:mL M.S M.W M.cf M.c.Nf
 all:Rows M.S M.W M.allv M.Nb
 insl:M.Nb.length=M.p.Nb.length
 lev:∃a n,M.lv=.slice a M.p.MZ.length n
 Na:∃a n,M.ov=.slice a M.p.Na.length n
structure tv (M:sm)(w:World)(e:Nat):Prop where
 taken:∃l:List Int,al w M.tb 3 (l.map (Value.int .i64)).toArray∧l.length=M.Nb.length∧∀(i:Nat) t xs,l[i]? =some t→M.Nb[i]? =some xs→0≤t∧t≤xs.length
 box:∃A n c evs,al w M.bb 97 #[M.allv,.slice (some ⟨M.tb,0,none⟩) M.Nb.length M.Nb.length,M.lv,M.uv,M.iv,M.ov,.int .i64 M.p.Nc,.slice A n c]∧w.ownsRow M.N 120 5 (.slice A n c) n evs∧(n≤e∧n≤2097153)∧∀u∈evs,u.oneCell'=true
structure OS (M:sm)(w:World)(frv:Value)(n e:Nat):Prop where
 kept:aa M.S M.W w
 mach:al w M.mb 70 #[.int .i64 M.p.Nc,M.ca,M.cf,.int .i64 M.c.main,M.fv,.pointer (some ⟨M.bb,0,none⟩),M.av,frv,.int .i64 n]
 box:tv M w e
 arrs:∀(k:Nat) a,M.c.Nd[k]? =some a→∃g cap cs v,M.av=.slice (some ⟨g,0,none⟩) M.c.Nd.length cap∧M.N≤g∧al w g 35 cs∧cs[k]? =some v∧No M.N w v a.1.toNat
 err:∀b,M.eb=some b→al w b 37 #[.int .i64 0]
structure Fr where
 g:Nat
 fn:Nat
 blk:Nat
 Nj:Nat
structure OT (M:sm)(w:World)(f:Fr):Prop where
 lo:M.N≤f.g
 at_:∃v b,al w f.g 114 #[.int .i64 f.fn,.int .i64 f.blk,.int .i64 f.Nj,v]∧M.c.Nf[f.fn]? =some b∧No M.N w v b.vars.toNat
def Nw (c:aE)(f:Fr):Option bz:=(c.Nf[f.fn]?).bind fun b=>(b.Ng[f.blk]?).bind fun l=>(Nv l)[f.Nj]?
def Ns (c:aE):Nat→List Fr→Prop
 |j,[]=>j=c.main.toNat
 |j,f::l=>(∃x,Nw c f=some x∧x.kind=7∧x.ref=(j:Int))∧Ns c f.fn l
structure Ny (M:sm)(w:World)(frv:Value)(fs:List Fr):Prop where
 row:w.ownsRow M.N 112 1 frv fs.length (fs.reverse.map fun f=>Value.pointer (some ⟨f.g,0,none⟩))
 once:(fs.map Fr.g).Nodup
 each:∀f∈fs,OT M w f
 deep:(fs.length:Int)≤M.p.Nc
structure Np (M:sm)(w:World)(frv:Value)(fs:List Fr)(n e:Nat):Prop where
 core:OS M w frv n e
 frames:Ny M w frv fs
section
variable {M:sm} {w w':World} {frv:Value} {n e:Nat}
theorem RL (k:tq M.N w w'):aa M.S w w':=k.kept.mono fun _ h=>.inl h.1
theorem tv.turn (h:tv M w e)(k:tq M.N w w'):tv M w' e:=by obtain⟨⟨l,o,C⟩,A,m,c,j,J,R,Y⟩:=h;exact⟨⟨l,k.blk o (by decide),C⟩,A,m,c,j,k.blk J (by decide),k.row R (by decide),Y⟩
theorem OS.turn (h:OS M w frv n e)(k:tq M.N w w'):OS M w' frv n e:=by refine⟨h.kept.trans (RL k),k.blk h.mach (by decide),h.box.turn k,fun i a j=>?_,fun b l=>k.blk (h.err b l) (by decide)⟩;obtain⟨g,cap,cs,v,o,C,J,R,Y⟩:=h.arrs i a j;exact⟨g,cap,cs,v,o,C,k.blk J (by decide),R,k.nums _ _ Y⟩
theorem OT.turn {f:Fr}(h:OT M w f)(k:tq M.N w w'):OT M w' f:=by obtain⟨j,v,b,l,o,C⟩:=h;exact⟨j,v,b,k.blk l (by decide),o,k.nums _ _ C⟩
theorem Ny.turn {j:List Fr}(h:Ny M w frv j)(k:tq M.N w w'):Ny M w' frv j:=
 ⟨k.row h.row (by decide),h.once,fun f l=>(h.each f l).turn k,h.deep⟩
theorem Np.turn {j:List Fr}(h:Np M w frv j n e)(k:tq M.N w w'):Np M w' frv j n e:=⟨h.core.turn k,h.frames.turn k⟩
end
end
def NJ (n:Int)(e:Ending):Prop:=e=.panicked [{v:=.iface 116 (.agg #[.int .i64 n]),recovered:=false}]
theorem ND (n:Int)(w:World):Calls prog 53 #[.int .i64 n] w fun e j=>NJ n e∧w=j:=by go_enter func53,ntmps53;go_wp2;exact⟨rfl,rfl,rfl⟩
theorem QA {w:World}{mb b o n c g:Nat}{v0 v1 v2 v3 v4 v5 v6 j:Value}(hm:al w mb 70 #[v0,v1,v2,v3,v4,v5,v6,.slice (some ⟨b,o,none⟩) (n+1) c,j])(J:w.cell? ⟨b,o+n,none⟩=some (.pointer (some ⟨g,0,none⟩)))(R:n<1048576):
 Calls prog 51 #[.pointer (some ⟨mb,0,none⟩)] w fun e l=>e=.returned (.pointer (some ⟨g,0,none⟩))∧aa All w l:=by
 have C:=hm.cell 7;simp only[gc] at C;clear hm;go_enter func51,ntmps51;go_wp2_with fail;go_quiet (fail);go_wp2_with fail;go_ret;exact⟨rfl,kR.drewN _⟩
section
def Th (ts:List TypeId)(w:World)(b:Nat):Prop:=∃cs t fr,w.heap[b]? =some (.cells cs t fr)∧t∉ts
abbrev Nt (M:sm)(ts:List TypeId)(w w':World):Prop:=aa (fun b=>M.S b∨Th ts w b) w w'
section
variable {M:sm} {ts:List TypeId} {w w' a b c:World} {frv:Value} {n e:Nat}
theorem Nt.refl:Nt M ts w w:=kR
theorem Nt.of_kept (k:aa All w w'):Nt M ts w w':=k.all
theorem Nt.trans (h:Nt M ts a b)(k:Nt M ts b c):Nt M ts a c:=by
 refine⟨k.os.trans h.os,k.output.trans h.output,fR h.size k.size,fun i hi j=>?_⟩;have l:=h.block i hi j;refine(k.block i (Nat.lt_of_lt_of_le hi h.size) ?_).trans l;rcases j with j|⟨cs,t,o,C,J⟩;·exact .inl j
 exact .inr ⟨cs,t,o,by rw[l];exact C,J⟩
theorem Nt.keep (h:Nt M ts a b)(k:aa All b c):Nt M ts a c:=h.trans (.of_kept k)
theorem Nt.mono {us:List TypeId}(h:Nt M ts w w')(j:∀t∈ts,t∈us):Nt M us w w':=aa.mono h fun _ l=>l.imp_right fun⟨cs,t,o,C,J⟩=>⟨cs,t,o,C,fun h=>J (j t h)⟩
theorem Nt.stand (h:Nt M ts w w'):aa M.S w w':=aa.mono h fun _=>.inl
theorem Nt.blk {g:Nat}{t:TypeId}{cs:Array Value}(h:Nt M ts w w')(j:al w g t cs)(l:t∉ts):al w' g t cs:=j.kept h (.inr ⟨cs,t,_,j,l⟩)
theorem Nt.row {base:Nat}{t:TypeId}{size n:Nat}{v:Value}{xs:List Value}(k:Nt M ts w w')(h:w.ownsRow base t size v n xs)(j:t∉ts):w'.ownsRow base t size v n xs:=by
 refine⟨h.1,?_⟩;rcases h.2 with l|⟨g,cap,cur,rfl,o,C,r⟩;·exact .inl l
 exact .inr ⟨g,cap,cur,rfl,o,k.blk (t:=t) C j,r⟩
theorem Nt.nums {v:Value}{n:Nat}(k:Nt M ts w w')(h:No M.N w v n)(j:2∉ts):No M.N w' v n:=by obtain⟨g,xs,rfl,l,o,C⟩:=h;exact⟨g,xs,rfl,l,k.blk o j,C⟩
theorem Nt.set {g i:Nat}{t:TypeId}{cs:Array Value}(h:Nt M ts a w)(o:al w g t cs)(C:¬M.S g)(J:t∈ts)(u:Value):Nt M ts a (w.setCell ⟨g,i,none⟩ u):=by
 refine h.trans ((aa.refl _ w).setCell (p:=⟨g,i,none⟩) (.inl ?_) u);rintro(h|⟨R,Y,Z,j,l⟩);·exact C h
 have j:w.heap[g]? =_:=j;rw[show w.heap[g]? =_ from o] at j;injection j with j;injection j with _ j;exact l (j▸J)
theorem Nt.grown {row:Option Nat}{t:TypeId}(h:Nt M ts a w)(C:w.grownBy w' row)(J:∀g,row=some g→¬M.S g∧(∃cs o,w.heap[g]? =some (.cells cs t o)))(R:t∈ts):Nt M ts a w':=by
 refine h.trans ((aa.refl _ w).grown C fun g e=>.inl ?_);obtain⟨Y,cs,o,Z⟩:=J g e;rintro(h|⟨ds,t',a1,j,l⟩);·exact Y h
 rw[Z] at j;injection j with j;injection j with _ j;exact l (j▸R)
theorem sm.hi {M:sm}{g:Nat}(h:M.N≤g):¬M.S g:=fun j=>by have:=j.1;omega
theorem sm.mb_s (M:sm):¬M.S M.mb:=fun h=>h.2.1 rfl
theorem sm.bb_s (M:sm):¬M.S M.bb:=fun h=>h.2.2.1 rfl
theorem sm.tb_s (M:sm):¬M.S M.tb:=fun h=>h.2.2.2 rfl
theorem Nu {base:Nat}{t:TypeId}{size n:Nat}{v:Value}{xs:List Value}(h:w.ownsRow base t size v n xs){g:Nat}(j:v.ownBlock=some g):base≤g∧∃cs l,w.heap[g]? =some (.cells cs t l):=by
 rcases h.2 with ⟨rfl,_⟩|⟨J,cap,cur,rfl,o,C,_⟩;·cases j
 cases j;exact⟨o,_,_,C⟩
theorem tv.upd (h:tv M w e)(k:Nt M ts w w')(o:3∉ts)(C:97∉ts)(J:120∉ts):tv M w' e:=by obtain⟨⟨l,R,Y⟩,A,m,c,j,Z,h7,h8⟩:=h;exact⟨⟨l,k.blk R o,Y⟩,A,m,c,j,k.blk Z C,k.row h7 J,h8⟩
theorem OS.upd {j:Value}{o C:Nat}(h:OS M w frv n e)(k:Nt M ts w w')(hm:al w' M.mb 70 #[.int .i64 M.p.Nc,M.ca,M.cf,.int .i64 M.c.main,M.fv,.pointer (some ⟨M.bb,0,none⟩),M.av,j,.int .i64 o])(l:tv M w' C)(J:35∉ts)(R:2∉ts)(Y:37∉ts:=by decide):OS M w' j o C:=by refine⟨h.kept.trans k.stand,hm,l,fun i a Z=>?_,fun b l=>k.blk (h.err b l) Y⟩;obtain⟨g,cap,cs,v,q3,h4,h5,h6,h7⟩:=h.arrs i a Z;exact⟨g,cap,cs,v,q3,h4,k.blk h5 J,h6,k.nums h7 R⟩
theorem OT.upd {f:Fr}(h:OT M w f)(k:Nt M ts w w')(j:114∉ts)(l:2∉ts):OT M w' f:=by obtain⟨o,v,b,C,J,R⟩:=h;exact⟨o,v,b,k.blk C j,J,k.nums R l⟩
theorem Ny.upd {j:List Fr}(h:Ny M w frv j)(k:Nt M ts w w')(l:112∉ts)(o:114∉ts)(C:2∉ts):Ny M w' frv j:=
 ⟨k.row h.row l,h.once,fun f J=>(h.each f J).upd k o C,h.deep⟩
theorem OJ {f:Fr}{j:List Fr}(h:Ny M w frv (f::j)):∃b c,frv=.slice (some ⟨b,0,none⟩) (j.length+1) c∧w.cell? ⟨b,0+j.length,none⟩=some (.pointer (some ⟨f.g,0,none⟩)):=by
 obtain⟨Z,C⟩:=h.row;rcases C with ⟨_,J⟩|⟨g,cap,cur,rfl,_,R,hc,_,Y,l⟩;·simp at J
 refine⟨g,cap,rfl,?_⟩;rw[cN,al.cell (w:=w) (t:=112) (cs:=cur) R,←Array.getElem?_toList];have o:(((f::j).reverse.map fun f=>Value.pointer (some ⟨f.g,0,none⟩)))[j.length]? =some (.pointer (some ⟨f.g,0,none⟩)):=by rw[List.reverse_cons,ic,kH (by simp)];simp
 rw[←l,rY (by simp)] at o;exact o
theorem Nl {f:Fr}{j:List Fr}(h:Np M w frv (f::j) n e)(o:j.length<1000):Calls prog 51 #[.pointer (some ⟨M.mb,0,none⟩)] w fun e w'=>e=.returned (.pointer (some ⟨f.g,0,none⟩))∧aa All w w':=by obtain⟨b,c,rfl,l⟩:=OJ h.frames;exact QA (n:=j.length) h.core.mach l (by omega)
theorem PT {c:aE}{f:Fr}{x:bz}(h:Nw c f=some x):∃b l,c.Nf[f.fn]? =some b∧b.Ng[f.blk]? =some l∧(Nv l)[f.Nj]? =some x:=by unfold Nw at h;obtain⟨b,j,h⟩:=Option.bind_eq_some_iff.1 h;obtain⟨l,o,h⟩:=Option.bind_eq_some_iff.1 h;exact⟨b,l,j,o,h⟩
theorem NI {f:Fr}{x:bz}(hM:iU M)(j:aa M.S M.W w)(ho:Nw M.c f=some x)(hf:OT M w f):∃fa o fn fc C J bn bc R Y on oc a v,(∃nv:Nat,(∃b,M.c.Nf[f.fn]? =some b∧b.vars.toNat=nv)∧No M.N w v nv)∧M.fv=.slice (some ⟨fa,o,none⟩) fn fc∧f.fn<fn∧f.blk<bn∧f.Nj<on∧aK M.S w a (if x.kind=7 then x.args else [])∧jx x∧
 ∀wn,aa All w wn→wn.cell? ⟨f.g,0,none⟩=some (.int .i64 (f.fn:Nat))∧wn.cell? ⟨f.g,1,none⟩=some (.int .i64 (f.blk:Nat))∧wn.cell? ⟨f.g,2,none⟩=some (.int .i64 (f.Nj:Nat))∧wn.cell? ⟨f.g,3,none⟩=some v∧
  wn.cell? ⟨fa,o+f.fn,none⟩=some (.slice (some ⟨C,J,none⟩) bn bc)∧wn.cell? ⟨C,J+f.blk*2+1,none⟩=some (.slice (some ⟨R,Y,none⟩) on oc)∧wn.cell? ⟨R,Y+f.Nj,none⟩=some (ct x a):=by
 obtain⟨b,l,Z,hl,hx⟩:=PT ho;obtain⟨v,b',a1,a6,hv⟩:=hf.at_;obtain rfl:b'=b:=kJ (a6.symm.trans Z);have h:=OM.keep j hM.fns;obtain⟨A,c,hA,_⟩:=id h;rw[hA] at h;obtain⟨fa,o,u,rfl,_,a7,hu⟩:=bn h Z;obtain⟨A2,c2,rfl,_⟩:=id (show RC M.S w u b'.Ng from hu);obtain⟨C,J,cs,rfl,_,_,a8,u1,u2,rfl,_,h2⟩:=aZ (show RC M.S w _ b'.Ng from hu) hl;obtain⟨A3,c3,rfl,_⟩:=id h2;obtain⟨R,Y,y,rfl,_,b0,a,rfl,ha,hw⟩:=bn h2 hx;refine⟨fa,o,_,c,C,J,_,c2,R,Y,_,c3,a,v,⟨_,⟨b',Z,rfl⟩,hv⟩,hA,(lS.1 Z).1,(lS.1 hl).1,(lS.1 hx).1,ha,hw,fun wn j=>?_⟩;have q:=a1.kept j trivial;exact⟨q.cell 0,q.cell 1,q.cell 2,q.cell 3,j.cell (p:=⟨fa,o+f.fn,none⟩) trivial a7,j.cell (p:=⟨C,J+f.blk*2+1,none⟩) trivial (a8 1 _ rfl),j.cell (p:=⟨R,Y+f.Nj,none⟩) trivial b0⟩
end
end
section
open Go Go.RowKit
section
variable {P:Program}
theorem NO (w:World)(base:Nat)(t ty e:TypeId)(i:TypeInfo)(z:Value)(size bytes:Nat)(ht:P.underlying t=some (.slice e))(hi:P.info? e=some i)(hz:i.zero=some z)
 (b1:i.size=size) (b7:i.bytes=bytes) (v:Value) (n:Nat) (xs:List Value) (l:w.ownsRow base e size v n xs)
 (b off c:Nat) (news:List Value) (hl:news.length=size) (hA:∀(j:Nat) u,news[j]? =some u→w.cell? ⟨b,off+j,none⟩=some u)
 (h1:∀u∈news,u.oneCell'=true) (b8:n+1≤maxLen) (a1:(n+1)*bytes≤140737488355328)
 (a7:0<size) (v':Value) (w':World) (hr:(Builtin.append_ #[t,t] ty #[v,.slice (some ⟨b,off,none⟩) 1 c]).run P w=.ok v' w'):
 w'.ownsRow base e size v n xs∧∀u ys,w.ownsRow base e size u (n+1) ys→u.ownBlock=v.ownBlock→w'.ownsRow base e size u (n+1) (xs++news):=by
 have b4:∀(j:Nat) u,news[j]? =some u→w.cell? ((⟨b,off,none⟩:Addr).add j)=some u:=fun j u hu=>by(
 have:=hA j u hu;unfold Addr.add;split;·rename_i h;subst h;exact this
 exact this)
 subst b1;subst b7;have C:(xs++news).length=(n+1)*i.size:=by rw[iQ,l.1,hl,Nat.succ_mul]
 rcases l.2 with hn|⟨g,cap,cur,rfl,hb,hh,hc,hm,a6,b2⟩
 ·refine⟨⟨l.1,.inl hn⟩,fun u _ hu e=>?_⟩
  rcases hu.2 with ⟨_,h0⟩|⟨g2,o,a8,rfl,_⟩;·omega
  rw[hn.1] at e;cases e
 by_cases J:n+1≤cap;·(
 have b5:n*i.size+news.length≤cur.size:=by rw[hl,a6,←Nat.succ_mul];exact Nat.mul_le_mul_right _ J
 have h2:=run_append_room (P:=P) w t ty e i ht hi g n cap cur hh ⟨b,off,none⟩ 1 c news (by rw[hl,Nat.one_mul]) b4 h1 J b5;rw[hr] at h2;injection h2 with _ h2;subst h2;have Y:(cur.toList.take (n*i.size)).length=n*i.size:=by rw[fN,Array.length_toList];omega
 have b0:=setRow_heap w g cur (cur.toList.take (n*i.size)++news++cur.toList.drop (n*i.size+news.length)).toArray e _ hh;have R:(cur.toList.take (n*i.size)++news++cur.toList.drop (n*i.size+news.length)).toArray.size=cap*i.size:=by simp only[List.size_toArray,iQ,Y,List.length_drop,Array.length_toList];omega
 refine⟨⟨l.1,.inr ⟨g,cap,_,rfl,hb,b0,hc,hm,R,?_⟩⟩,fun u _ hu eu=>⟨C,?_⟩⟩
 ·rw[jM]
  show((cur.toList.take (n*i.size))++_).take (n*i.size)=xs;rw[List.take_append_of_le_length (eE Y.symm),oF (eE Y)];exact b2
 rcases hu.2 with ⟨_,h0⟩|⟨g2,o,a8,rfl,b9,Z,c0,c1,b3,c2⟩;·omega
 cases eu;rw[hh] at Z;cases Z;have b6:o=cap:=Nat.eq_of_mul_eq_mul_right a7 (b3.symm.trans a6);subst b6;refine .inr ⟨g,o,_,rfl,hb,b0,J,hm,R,?_⟩;rw[b2];show((xs++news)++_).take ((n+1)*i.size)=xs++news;rw[List.take_append_of_le_length (eE C.symm),oF (eE C)])
 have holds:∀(j:Nat) u,xs[j]? =some u→w.cell? ((⟨g,0,none⟩:Addr).add j)=some u:=l.cells (g:=g) rfl;have h2:=run_append_grow (P:=P) w t ty e i z ht hi hz ⟨g,0,none⟩ n cap xs l.1 holds ⟨b,off,none⟩ 1 c news (by rw[hl,Nat.one_mul]) b4 (by omega) (by unfold maxLen at b8;omega) (growslice_fits (by omega) a1);rw[hr] at h2;injection h2 with _ h2;subst h2;refine⟨⟨l.1,.inr ⟨g,cap,cur,rfl,hb,al.alloc (w:=w.drew) (t:=e) (cs:=cur) hh _,hc,hm,a6,b2⟩⟩,fun u _ hu eu=>?_⟩;rcases hu.2 with ⟨_,h0⟩|⟨g2,o,a8,rfl,b9,Z,c0,c1,b3,c2⟩;·omega
 cases eu;rw[hh] at Z;cases Z;have b6:o=cap:=Nat.eq_of_mul_eq_mul_right a7 (b3.symm.trans a6);omega
def DL (W:World)(base:Nat)(e:TypeId)(size:Nat)(v:Value)(n:Nat)(xs:List Value)(w:World):Prop:=aa (fun b=>v.ownBlock≠some b) W w∧w.ownsRow base e size v n xs
def NH (W:World)(base:Nat)(e:TypeId)(size:Nat)(v:Value)(n:Nat)(xs cells:List Value)(tb t:Tmp)(u:Value)(w:World):Prop:=
 if t=tb then∃g,u=.slice (some ⟨g,0,none⟩) 1 1∧W.heap.size≤g∧al w g e cells.toArray
 else w.ownsRow base e size u (n+1) (xs++cells)∧(u.ownBlock=v.ownBlock∨∀g,u.ownBlock=some g→W.heap.size≤g)
def Oa (u:Value):Prop:=∃g,u=.slice (some ⟨g,0,none⟩) 1 1
def NT (n:Nat)(u:Value):Prop:=∃A c,u=.slice A (n+1) c
theorem NH.keep {W w j:World}{base:Nat}{e:TypeId}{size:Nat}{v:Value}{n:Nat}{xs cells:List Value}{tb:Tmp}(k:aa All w j)(t:Tmp)(u:Value)(h:NH W base e size v n xs cells tb t u w):NH W base e size v n xs cells tb t u j:=by
 unfold NH at h⊢;split
 ·rename_i e;rw[ap e] at h
  obtain⟨g,l,o,C⟩:=h;exact⟨g,l,o,C.kept k trivial⟩
 rename_i e;rw[ae e] at h;exact⟨be h.1 k fun _ _=>trivial,h.2⟩
variable {ops:Array Oper} {X:List PanicEntry→World→Prop} {W:World} {base:Nat} {e:TypeId} {size:Nat} {v:Value} {n:Nat} {xs cells:List Value} {tb ta:Tmp} {L:Nat→Option (Value→Prop)} {D:Nat→Bool} {Q:Act→Prop} {o:Oper} {rest:List Oper} {k:Nat} {dead:Bool} {a:Act}
theorem DL.keep {w j:World}(h:DL W base e size v n xs w)(k:aa All w j):DL W base e size v n xs j:=⟨h.1.trans k.all,be h.2 k fun _ _=>trivial⟩
theorem DL.first {w:World}(h:w.ownsRow base e size v n xs):DL w base e size v n xs w.drew:=⟨kR.drew,be h ((aa.refl All w).drew) fun _ _=>trivial⟩
theorem PE (hw:Region.wanted o (yielded ops a.tmps)=true)(R:L k=some Oa)(C:D k=false)(j:o.dst=some tb)
 (h:∀w,DL W base e size v n xs w→ij ops [tb,ta] (NH W base e size v n xs cells tb) o a w→(execOp a.eval o).run P w=.ok (.value (.slice (some ⟨w.heap.size,0,none⟩) 1 1)) (w.alloc (.cells cells.toArray e))) (Y:∀g,oC P ops (DL W base e size v n xs) [tb,ta] (NH W base e size v n xs cells tb) L D X Q rest (k+1) dead (a.put (some tb) (.slice (some ⟨g,0,none⟩) 1 1))):
 oC P ops (DL W base e size v n xs) [tb,ta] (NH W base e size v n xs cells tb) L D X Q (o::rest) k dead a:=by
 have good:∀w,DL W base e size v n xs w→om (DL W base e size v n xs) [tb,ta] (NH W base e size v n xs cells tb) o w (w.alloc (.cells cells.toArray e)) (.slice (some ⟨w.heap.size,0,none⟩) 1 1):=fun w l=>
  ⟨l.keep (kR.alloc _),fun t _ u hu=>hu.keep (kR.alloc _) t u,fun d C _=>by rw[j] at C;cases C;unfold NH;rw[ap rfl];exact⟨_,rfl,l.1.size,al.new _ _ _⟩⟩
 refine Ey hw R C (fun w l J=>?_) (fun w l J=>⟨_,_,⟨_,rfl⟩,good w l⟩) ?_
 ·rw[h w l J]
  exact⟨rfl,⟨_,rfl⟩,good w l⟩
 rintro u ⟨g,rfl⟩;rw[j];exact Y g
theorem Ov (hw:Region.wanted o (yielded ops a.tmps)=true)(hl:L k=some (NT n))(hd:D k=false)(Z:o.dst=some ta)(b7:ta≠tb)(s:Operand)(t:TypeId)
 (ho:o.op=.call {callee:=.builtin .append,args:=#[s,.tmp tb],argTypes:=#[t,t]}) (i:TypeInfo) (z:Value) (bytes:Nat) (ht:P.underlying t=some (.slice e)) (hi:P.info? e=some i) (hz:i.zero=some z)
 (J:i.size=size) (b0:i.bytes=bytes) (b8:z.cells.size=size) (b1:0<size) (hs:a.eval s=v) (g:Nat) (hx:a.tmps[tb]? =some (.slice (some ⟨g,0,none⟩) 1 1)) (a6:tb∈o.looksAt ops) (b2:cells.length=size)
 (h1:∀u∈cells,u.oneCell'=true) (b3:n+1≤maxLen) (C:(n+1)*bytes≤140737488355328) (a7:base≤W.heap.size) (b4:∀b,v.ownBlock=some b→b<W.heap.size)
 (hk:∀A c,oC P ops (DL W base e size v n xs) [tb,ta] (NH W base e size v n xs cells tb) L D X Q rest (k+1) dead (a.put (some ta) (.slice A (n+1) c))):
 oC P ops (DL W base e size v n xs) [tb,ta] (NH W base e size v n xs cells tb) L D X Q (o::rest) k dead a:=by
 have key:∀w,DL W base e size v n xs w→ij ops [tb,ta] (NH W base e size v n xs cells tb) o a w→∃v' Y,(Builtin.append_ #[t,t] o.type #[v,.slice (some ⟨g,0,none⟩) 1 1]).run P w=.ok v' Y∧NT n v'∧om (DL W base e size v n xs) [tb,ta] (NH W base e size v n xs cells tb) o w Y v':=by(
 intro w l hp;have hf:=hp tb a6 (by simp) _ hx;unfold NH at hf;rw[ap rfl] at hf;obtain⟨g',eg,c0,b9⟩:=hf;iterate 3 injection eg with eg
 subst eg;have R:∀(j:Nat) u,cells[j]? =some u→w.cell? ⟨g,0+j,none⟩=some u:=fun j u hu=>by rw[cN,b9.cell j,List.getElem?_toArray];exact hu
 obtain⟨v',Y,hr,h2,h3,h4⟩:=JL (P:=P) w base t o.type e i z size bytes ht hi hz J b0 b8 b1 v n xs l.2 (some ⟨g,0,none⟩) 1 1 cells (by rw[b2,Nat.one_mul]) (fun _=>⟨g,0,rfl,R⟩) h1 b3 C (fR a7 l.1.size);have b5:=NO (P:=P) w base t o.type e i z size bytes ht hi hz J b0 v n xs l.2 g 0 1 cells b2 R h1 b3 C b1 v' Y hr;obtain⟨A,c,rfl⟩:=aU h2;have hK:aa (fun b=>v.ownBlock≠some b) w Y:=(aa.refl _ w).grown h3 fun b hb=>.inl fun h=>h hb;refine⟨_,Y,hr,⟨A,c,rfl⟩,⟨l.1.trans hK,b5.1⟩,fun t' _ u hu=>?_,fun d b6 _=>?_⟩
 ·unfold NH at hu⊢;split
  ·rename_i et;rw[ap et] at hu
   obtain⟨g2,q1,q2,q3⟩:=hu;exact⟨g2,q1,q2,q3.kept hK fun hb=>by have:=b4 _ hb;omega⟩
  rename_i et;rw[ae et] at hu;refine⟨?_,hu.2⟩;rcases hu.2 with a8|a8;·exact b5.2 u _ hu.1 a8
  exact be hu.1 hK fun b hb hv=>by have h5:=b4 _ hv;have h6:=a8 b hb;omega
 rw[Z] at b6;cases b6;unfold NH;rw[ae b7];refine⟨h2,?_⟩;rcases h4 with h4|h4;·exact .inl h4
 exact .inr fun g2 a1=>by rw[h4] at a1;cases a1;exact l.1.size)
 refine Ey hw hl hd (fun w l hp=>?_) (fun w l hp=>?_) ?_
 ·obtain⟨v',Y,hr,h2,h3⟩:=key w l hp
  unfold execOp;simp only[ho,resolve,invoke,builtin,Sem.run_bind,Sem.run_pure,Result.andThen_ok,List.map_toArray,List.map_cons,List.map_nil,hs,show a.eval (.tmp tb)=.slice (some ⟨g,0,none⟩) 1 1 from by simp[Act.eval,hx],hr];exact⟨rfl,h2,h3⟩
 ·obtain⟨v',Y,hr,h2,h3⟩:=key w l hp
  exact⟨v',Y,h2,h3⟩
 rintro u ⟨A,c,rfl⟩;rw[Z];exact hk A c
end
end
end Go.Proofs.YtncdbjponknakaaGreatDoor
