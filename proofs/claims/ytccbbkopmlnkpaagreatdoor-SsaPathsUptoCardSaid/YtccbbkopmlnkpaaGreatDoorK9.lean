/- Part 10 of the proof (its last part says what is proved). No condition. -/
import Derived.Test.YtccbbkopmlnkpaaGreatDoorK6
namespace Go.Proofs.YtccbbkopmlnkpaaGreatDoor
set_option maxRecDepth 100000
set_option maxHeartbeats 8000000
open Go.RowKit Go.Proofs.Tryz
section
open Go Go.RowKit
open Go Go.RowKit
section
variable {P:Program}
def jP (W:World)(base:Nat)(e:TypeId)(size:Nat)(v:Value)(n:Nat)(xs cells:List Value)(tb t:Tmp)(u:Value)(w:World):Prop:=
 if t=tb then∃g,u=.slice (some ⟨g,0,none⟩) 1 1∧W.heap.size≤g∧al w g e cells.toArray
 else w.ownsRow base e size u (n+1) (xs++cells)∧(u.ownBlock=v.ownBlock∨∀g,u.ownBlock=some g→W.heap.size≤g)
theorem jP.keep {W w j:World}{base:Nat}{e:TypeId}{size:Nat}{v:Value}{n:Nat}{xs cells:List Value}{o:Tmp}(k:aa All w j)(t:Tmp)(u:Value)(h:jP W base e size v n xs cells o t u w):jP W base e size v n xs cells o t u j:=by
 unfold jP at h⊢;split
 ·rename_i e;rw[am e] at h
  obtain⟨g,C,I,J⟩:=h;exact⟨g,C,I,J.kept k trivial⟩
 rename_i e;rw[ah e] at h;exact⟨ay h.1 k fun _ _=>trivial,h.2⟩
variable {ops:Array Oper} {X:List PanicEntry→World→Prop} {W:World} {base:Nat} {e:TypeId} {size:Nat} {v:Value} {n:Nat} {xs cells:List Value} {tb ta:Tmp} {L:Nat→Option (Value→Prop)} {D:Nat→Bool} {Q:Act→Prop} {o:Oper} {rest:List Oper} {k:Nat} {dead:Bool} {a:Act}
theorem kH.keep {w j:World}(h:kH W base e size v n xs w)(k:aa All w j):kH W base e size v n xs j:=⟨h.1.trans k.all,ay h.2 k fun _ _=>trivial⟩
theorem xm (hw:Region.wanted o (yielded ops a.tmps)=true)(R:L k=some kI)(I:D k=false)(j:o.dst=some tb)
 (h:∀w,kH W base e size v n xs w→dL ops [tb,ta] (jP W base e size v n xs cells tb) o a w→(execOp a.eval o).run P w=.ok (.value (.slice (some ⟨w.heap.size,0,none⟩) 1 1)) (w.alloc (.cells cells.toArray e))) (Y:∀g,mr P ops (kH W base e size v n xs) [tb,ta] (jP W base e size v n xs cells tb) L D X Q rest (k+1) dead (a.put (some tb) (.slice (some ⟨g,0,none⟩) 1 1))):
 mr P ops (kH W base e size v n xs) [tb,ta] (jP W base e size v n xs cells tb) L D X Q (o::rest) k dead a:=by
 have good:∀w,kH W base e size v n xs w→gw (kH W base e size v n xs) [tb,ta] (jP W base e size v n xs cells tb) o w (w.alloc (.cells cells.toArray e)) (.slice (some ⟨w.heap.size,0,none⟩) 1 1):=fun w C=>
  ⟨C.keep (kR.alloc _),fun t _ u hu=>hu.keep (kR.alloc _) t u,fun d I _=>by rw[j] at I;cases I;unfold jP;rw[am rfl];exact⟨_,rfl,C.1.size,al.new _ _ _⟩⟩
 refine qM hw R I (fun w C J=>?_) (fun w C J=>⟨_,_,⟨_,rfl⟩,good w C⟩) ?_
 ·rw[h w C J]
  exact⟨rfl,⟨_,rfl⟩,good w C⟩
 rintro u ⟨g,rfl⟩;rw[j];exact Y g
theorem pd (hw:Region.wanted o (yielded ops a.tmps)=true)(hl:L k=some (jv n))(hd:D k=false)(a1:o.dst=some ta)(b8:ta≠tb)(s:Operand)(t:TypeId)
 (ho:o.op=.call {callee:=.builtin .append,args:=#[s,.tmp tb],argTypes:=#[t,t]}) (i:TypeInfo) (z:Value) (bytes:Nat) (ht:P.underlying t=some (.slice e)) (hi:P.info? e=some i) (hz:i.zero=some z)
 (J:i.size=size) (b1:i.bytes=bytes) (b9:z.cells.size=size) (b2:0<size) (hs:a.eval s=v) (g:Nat) (hx:a.tmps[tb]? =some (.slice (some ⟨g,0,none⟩) 1 1)) (a7:tb∈o.looksAt ops) (b3:cells.length=size)
 (h1:∀u∈cells,u.oneCell'=true) (b4:n+1≤maxLen) (I:(n+1)*bytes≤140737488355328) (a8:base≤W.heap.size) (b5:∀b,v.ownBlock=some b→b<W.heap.size)
 (hk:∀A c,mr P ops (kH W base e size v n xs) [tb,ta] (jP W base e size v n xs cells tb) L D X Q rest (k+1) dead (a.put (some ta) (.slice A (n+1) c))):
 mr P ops (kH W base e size v n xs) [tb,ta] (jP W base e size v n xs cells tb) L D X Q (o::rest) k dead a:=by
 have key:∀w,kH W base e size v n xs w→dL ops [tb,ta] (jP W base e size v n xs cells tb) o a w→∃v' Y,(Builtin.append_ #[t,t] o.type #[v,.slice (some ⟨g,0,none⟩) 1 1]).run P w=.ok v' Y∧jv n v'∧gw (kH W base e size v n xs) [tb,ta] (jP W base e size v n xs cells tb) o w Y v':=by(
 intro w C hp;have hf:=hp tb a7 (by simp) _ hx;unfold jP at hf;rw[am rfl] at hf;obtain⟨g',eg,c1,c0⟩:=hf;iterate 3 injection eg with eg
 subst eg;have R:∀(j:Nat) u,cells[j]? =some u→w.cell? ⟨g,0+j,none⟩=some u:=fun j u hu=>by rw[dU,c0.cell j,List.getElem?_toArray];exact hu
 obtain⟨v',Y,hr,h2,h3,h4⟩:=wX (P:=P) w base t o.type e i z size bytes ht hi hz J b1 b9 b2 v n xs C.2 (some ⟨g,0,none⟩) 1 1 cells (by rw[b3,Nat.one_mul]) (fun _=>⟨g,0,rfl,R⟩) h1 b4 I (dA a8 C.1.size);have b6:=mY (P:=P) w base t o.type e i z size bytes ht hi hz J b1 v n xs C.2 g 0 1 cells b3 R h1 b4 I b2 v' Y hr;obtain⟨A,c,rfl⟩:=cd h2;have hK:aa (fun b=>v.ownBlock≠some b) w Y:=(aa.refl _ w).grown h3 fun b hb=>.inl fun h=>h hb;refine⟨_,Y,hr,⟨A,c,rfl⟩,⟨C.1.trans hK,b6.1⟩,fun t' _ u hu=>?_,fun d b7 _=>?_⟩
 ·unfold jP at hu⊢;split
  ·rename_i et;rw[am et] at hu
   obtain⟨g2,q1,q2,q3⟩:=hu;exact⟨g2,q1,q2,q3.kept hK fun hb=>by have:=b5 _ hb;omega⟩
  rename_i et;rw[ah et] at hu;refine⟨?_,hu.2⟩;rcases hu.2 with b0|b0;·exact b6.2 u _ hu.1 b0
  exact ay hu.1 hK fun b hb hv=>by have h5:=b5 _ hv;have h6:=b0 b hb;omega
 rw[a1] at b7;cases b7;unfold jP;rw[ah b8];refine⟨h2,?_⟩;rcases h4 with h4|h4;·exact .inl h4
 exact .inr fun g2 a6=>by rw[h4] at a6;cases a6;exact C.1.size)
 refine qM hw hl hd (fun w C hp=>?_) (fun w C hp=>?_) ?_
 ·obtain⟨v',Y,hr,h2,h3⟩:=key w C hp
  unfold execOp;simp only[ho,resolve,invoke,builtin,Sem.run_bind,Sem.run_pure,Result.andThen_ok,List.map_toArray,List.map_cons,List.map_nil,hs,show a.eval (.tmp tb)=.slice (some ⟨g,0,none⟩) 1 1 from by simp[Act.eval,hx],hr];exact⟨rfl,h2,h3⟩
 ·obtain⟨v',Y,hr,h2,h3⟩:=key w C hp
  exact⟨v',Y,h2,h3⟩
 rintro u ⟨A,c,rfl⟩;rw[a1];exact hk A c
end
end
section
structure jT:Prop where
 num:∀(c:UInt8) (n:Int),c=97∨c=98∨c=102∨c=118→aS n→ax (aG c n)=decide (0≤n)
 main:ax eO=true
 no:ax dQ=false
def rx (n:Nat)(r:Int):Int:=if 0≤r∧r<n then r else-1
theorem gC {n:Nat}{r:Int}:rx n r=r↔(0≤r∧r<n)∨r= -1:=by unfold rx;split<;>omega
theorem lJ {n:Nat}{r:Int}:0≤rx n r↔0≤r∧r<n:=by unfold rx;split<;>omega
theorem nS (c:UInt8)(n:Int):aG c n≠dQ:=by unfold aG dQ tg;intro h;injection h with h;simpa using congrArg Array.toList h
theorem kj {c:UInt8}(j:c=97∨c=98∨c=102∨c=118)(n:Int):aG c n≠eO:=by unfold aG eO tg;intro h;injection h with h;have:=congrArg Array.toList h;simp only[List.cons.injEq] at this;rcases j with rfl|rfl|rfl|rfl<;>exact absurd this.1 (by decide)
theorem wF {main i j:Int}(hi:aS i)(I:aS j)(h:qZ main i=qZ main j):i=j:=by
 unfold qZ at h;by_cases C:i=main
 ·by_cases o:j=main
  ·omega
  rw[am C,ah o] at h;exact absurd h.symm (kj (.inr (.inr (.inl rfl))) _)
 by_cases o:j=main
 ·rw[ah C,am o] at h
  exact absurd h (kj (.inr (.inr (.inl rfl))) _)
 rw[ah C,ah o] at h;exact(pS hi I h).2
theorem ye (L:jT){main i:Int}(hi:aS i):ax (qZ main i)=true↔i=main∨0≤i:=by
 unfold qZ;by_cases h:i=main;·rw[am h];simp[L.main,h]
 rw[ah h,L.num 102 i (.inr (.inr (.inl rfl))) hi];simp[h]
theorem lq {g:Int→ByteArray}{n:Nat}(hn:n≤1000000)(C:∀i j,aS i→aS j→g i=g j→i=j){r:Int}(I:aS r):aH ((List.range n).map fun(i:Nat)=>g i) (g r)=rx n r:=by
 have o:∀i:Nat,i<n→aS (i:Int):=fun i hi=>by unfold aS;omega
 by_cases h:0≤r∧r<n
 ·unfold rx
  rw[am h];have:aH ((List.range n).map fun(i:Nat)=>g i) (g r)=(r.toNat:Nat):=by(
 refine vC (k:=r.toNat) ?_ ?_
 ·rw[cy,nZ (by omega)]
  simp only[Option.map_some];rw[Int.toNat_of_nonneg h.1]
 rw[List.nodup_iff_pairwise_ne,List.pairwise_map];refine List.Pairwise.imp_of_mem (R:=fun a b=>a≠b) ?_ (List.nodup_iff_pairwise_ne.1 List.nodup_range);intro a b J Y a1 e;have:=C a b (o a (dW.1 J)) (o b (dW.1 Y)) e;omega)
  rw[this];omega
 unfold rx;rw[ah h];refine gW fun hm=>?_;obtain⟨i,hi,e⟩:=dt.1 hm;have hi:=dW.1 hi;have:=C i r (o i hi) I e;omega
theorem ki {g:Int→ByteArray}{n:Nat}(hn:n≤1000000)(C:∀i j,aS i→aS j→g i=g j→i=j):((List.range n).map fun(i:Nat)=>g i).Nodup:=by
 have o:∀i:Nat,i<n→aS (i:Int):=fun i hi=>by unfold aS;omega
 rw[List.nodup_iff_pairwise_ne,List.pairwise_map];refine List.Pairwise.imp_of_mem (R:=fun a b=>a≠b) ?_ (List.nodup_iff_pairwise_ne.1 List.nodup_range);intro a b I J Y e;have:=C a b (o a (dW.1 I)) (o b (dW.1 J)) e;omega
structure fw (x:bI):Prop where
 dst:aS x.dst
 ref:aS x.ref
 No:aS x.No
 args:∀a∈x.args,aS a
 Nn:∀a∈x.Nn,aS a
structure Hw (p:aI)(c:aU)(b:av)(q:cf)(f:aR)(N:Nat):Prop where
 posA:∀r,aS r→aH (cS q) (aG 97 r)=rx c.Nk.length r
 posF:∀r,aS r→aH (ee q) (qZ c.main r)=rx c.Nl.length r
 posB:∀r,aS r→aH (bg f) (aG 98 r)=rx b.Nm.length r
 posV:∀r,aS r→aH (aO f) (aG 118 r)=rx N r
 parG:∀(i:Nat),i<c.Nl.length→∃g,q.Nl[i]? =some g∧(g.params.length:Int)=(c.Nl.getD i ⟨0,0,[]⟩).params
theorem BY {n:Nat}{l:List Int}:(∀a∈l,0≤a∧a<n)→l.map (rx n)=l:=by intro h;have:l.map (rx n)=l.map id:=List.map_congr_left fun a j=>gC.2 (.inl (h a j));rw[this,List.map_id]
section
variable {p:aI} {c:aU} {b:av} {q:cf} {f:aR} {N:Nat}
theorem rI (o:dZ p){r:Int}(C:0≤r)(I:r<p.Ng.length):cH p (p.Ng.getD r.toNat dQ)=r∧ax (p.Ng.getD r.toNat dQ)=true:=by
 have j:r.toNat<p.Ng.length:=by omega
 have:=o.2.2.2.2.1 r.toNat _ (lG j);rw[iL,lG j,Option.getD_some];exact⟨by rw[this.2];omega,this.1⟩
theorem ww {l:List (ByteArray×Int)}(o:dG p l){r:Int}(C:0≤r)(I:r<l.length):gA l (l.getD r.toNat (dQ,0)).1=r∧ax (l.getD r.toNat (dQ,0)).1=true:=by
 have j:r.toNat<l.length:=by omega
 have:=o.2 r.toNat _ (lG j);rw[iL,lG j,Option.getD_some];exact⟨by rw[this.2.1];omega,this.1⟩
def zr (p:aI)(c:aU)(b:av)(N:Nat)(x:bI):Prop:=
 ∃n dst ref No,mX x.kind=some (n,dst,ref,No)∧(dst=true→0≤x.dst∧x.dst<N)∧(dst=false→x.dst= -1)∧(ref=false→x.ref=0)∧(No=false→x.No=0)∧
 (x.kind≠1→x.num=0)∧(x.kind≠2→x.op=0)∧(x.kind=2→1≤x.op∧x.op≤12)∧(ref=true→0≤x.ref∧x.ref<jE p c b x.kind)∧(No=true→0≤x.No∧x.No<b.Nm.length)∧
 (if x.kind=3 then x.Nn.length=x.args.length∧1≤x.Nn.length∧x.Nn.length≤64 else x.Nn=[]∧(x.args.length:Int)=if x.kind=7 then(c.Nl.getD x.ref.toNat ⟨0,0,[]⟩).params else n)∧
 (∀a∈x.args,0≤a∧a<N)∧∀a∈x.Nn,0≤a∧a<b.Nm.length
def ol (c:aU)(b:av)(x:bI):Int:=
 if x.kind=4∨x.kind=5∨x.kind=6 then rx c.Nk.length x.ref
 else if x.kind=7 then rx c.Nl.length x.ref
 else if x.kind=8∨x.kind=9∨x.kind=10 then x.ref
 else if x.kind=11∨x.kind=12 then rx b.Nm.length x.ref
 else 0
theorem wS (hp:dZ p)(C:Hw p c b q f N){x:bI}(hx:fw x)(hc:cQ p x):cK p q f (iP p c.main x)=ol c b x:=by
 unfold cK ol iP fZ;simp only;by_cases j:x.kind=4∨x.kind=5∨x.kind=6;·rw[am j,am j,am j,C.posA _ hx.ref]
 rw[ah j,ah j];by_cases o:x.kind=7;·rw[am o,am o,ah j,am o,C.posF _ hx.ref]
 rw[ah o,ah o];by_cases I:x.kind=8
 ·have:=hc.1 I
  have R:x.kind=8∨x.kind=9∨x.kind=10:=.inl I;simp only[ah j,ah o,am I,am R,(ww hp.2.2.2.2.2.1 this.1 this.2).1]
 rw[ah I];by_cases J:x.kind=9
 ·have:=hc.2.1 J
  have R:x.kind=8∨x.kind=9∨x.kind=10:=.inr (.inl J);simp only[ah j,ah o,ah I,am J,am R,(ww hp.2.2.2.2.2.2 this.1 this.2).1]
 rw[ah J];by_cases Y:x.kind=10
 ·have:=hc.2.2 Y
  have R:x.kind=8∨x.kind=9∨x.kind=10:=.inr (.inr Y);simp only[ah j,ah o,ah I,ah J,am Y,am R,(rI hp this.1 this.2).1]
 have a1:¬(x.kind=8∨x.kind=9∨x.kind=10):=by omega
 rw[ah Y,ah a1];by_cases h6:x.kind=11∨x.kind=12;·simp only[am h6,ah j,ah o,ah I,ah J,ah Y,C.posB _ hx.ref]
 simp only[ah h6,ah j,ah o]
def rP (b:av)(x:bI):Int:=if x.kind=12 then rx b.Nm.length x.No else 0
theorem wi (C:Hw p c b q f N){x:bI}(j:fw x):cR f (iP p c.main x)=rP b x:=by
 unfold cR rP iP;simp only;by_cases h:x.kind=12;·rw[am h,am h,am h,C.posB _ j.No]
 rw[ah h,ah h]
theorem DR (L:jT)(o:dZ p){x:bI}(C:fw x)(I:cQ p x):ax (fZ p c.main x)=true↔
 (x.kind=4∨x.kind=5∨x.kind=6∨x.kind=11∨x.kind=12→0≤x.ref)∧(x.kind=7→x.ref=c.main∨0≤x.ref)∧4≤x.kind∧x.kind≤12:=by
 unfold fZ;by_cases h1:x.kind=4∨x.kind=5∨x.kind=6
 ·rw[am h1,L.num _ _ (.inl rfl) C.ref,eq]
  constructor;·intro h;exact⟨fun _=>h,fun j=>by omega,by omega,by omega⟩
  intro h;exact h.1 (by omega)
 rw[ah h1];by_cases J:x.kind=7
 ·rw[am J,ye L C.ref]
  constructor;·intro h;exact⟨fun j=>by omega,fun _=>h,by omega,by omega⟩
  intro h;exact h.2.1 J
 rw[ah J];by_cases R:x.kind=8
 ·have:=I.1 R
  rw[am R,(ww o.2.2.2.2.2.1 this.1 this.2).2];exact⟨fun _=>⟨fun _=>this.1,fun j=>by omega,by omega,by omega⟩,fun _=>rfl⟩
 rw[ah R];by_cases Y:x.kind=9
 ·have:=I.2.1 Y
  rw[am Y,(ww o.2.2.2.2.2.2 this.1 this.2).2];exact⟨fun _=>⟨fun _=>this.1,fun j=>by omega,by omega,by omega⟩,fun _=>rfl⟩
 rw[ah Y];by_cases h5:x.kind=10
 ·have:=I.2.2 h5
  rw[am h5,(rI o this.1 this.2).2];exact⟨fun _=>⟨fun _=>this.1,fun j=>by omega,by omega,by omega⟩,fun _=>rfl⟩
 rw[ah h5];by_cases h6:x.kind=11∨x.kind=12
 ·rw[am h6,L.num _ _ (.inr (.inl rfl)) C.ref,eq]
  constructor;·intro h;exact⟨fun _=>h,fun j=>by omega,by omega,by omega⟩
  intro h;exact h.1 (by omega)
 rw[ah h6,L.no];constructor;·intro h;cases h
 intro h;omega
theorem Cf {x:bI}(h:¬(4≤x.kind∧x.kind≤12)):fZ p c.main x=dQ:=by unfold fZ;rw[ah (by omega),ah (by omega),ah (by omega),ah (by omega),ah (by omega),ah (by omega)]
theorem gl {k:Nat}{s:rY}(h:bJ k=some s):k≠3∧1≤k∧k≤13∧(s.ref=true↔4≤k∧k≤12∧k≠3)∧(s.No=true↔k=12)∧(s.args<0↔k=7)∧s.args≤2∧mX k=some (if k=7 then 9 else s.args,s.dst,s.ref,s.No):=by
 unfold bJ at h
 split at h<;>first
  |(cases h;refine⟨by decide,by decide,by decide,by decide,by decide,by decide,by decide,rfl⟩)
  |cases h
theorem nc {k:Nat}{t:Int×Bool×Bool×Bool}(h:mX k=some t)(j:k≠3):∃s,bJ k=some s:=by
 unfold mX at h
 split at h<;>first
  |exact⟨_,rfl⟩
  |exact absurd rfl j
  |cases h
def rU (N:Nat)(d:Int):Int:=if 0≤d then rx N d else-1
theorem wO (I:dZ p)(C:Hw p c b q f N){x:bI}(j:fw x)(J:cQ p x):gI (pg p q f (iP p c.main x))=gI x↔
 rU N x.dst=x.dst∧ol c b x=x.ref∧rP b x=x.No∧x.args.map (rx N)=x.args∧x.Nn.map (rx b.Nm.length)=x.Nn:=by
 have R:(if(iP p c.main x).dst=dQ then(-1:Int) else aH (aO f) (iP p c.main x).dst)=rU N x.dst:=by(
 unfold rU iP;simp only;by_cases h:0≤x.dst;·rw[am h,am h,ah (nS _ _),C.posV _ j.dst]
 rw[ah h,ah h,am rfl])
 have Y:(iP p c.main x).args.map (aH (aO f))=x.args.map (rx N):=by unfold iP;rw[List.map_map];exact List.map_congr_left fun a o=>C.posV a (j.args a o)
 have e3:(iP p c.main x).Nn.map (aH (bg f))=x.Nn.map (rx b.Nm.length):=by unfold iP;rw[List.map_map];exact List.map_congr_left fun a o=>C.posB a (j.Nn a o)
 unfold gI pg;rw[R,Y,e3,wS I C j J,wi C j];simp only[iP,bI.mk.injEq,true_and,and_true]
theorem yB (C:Hw p c b q f N){a:Int}(j:aS a):aG 118 a∈aO f↔0≤a∧a<N:=by rw[←aY,C.posV a j,lJ]
theorem yA (C:Hw p c b q f N){a:Int}(j:aS a):aG 98 a∈bg f↔0≤a∧a<b.Nm.length:=by rw[←aY,C.posB a j,lJ]
def EM (p:aI)(c:aU)(q:cf)(f:aR)(x:bI):Prop:=cQ p x∧dy (iP p c.main x)∧kM p q f (iP p c.main x)∧gI (pg p q f (iP p c.main x))=gI x
theorem Gs (L:jT)(hp:dZ p)(C:Hw p c b q f N){x:bI}(hx:fw x)(h:EM p c q f x):zr p c b N x:=by
 obtain⟨hc,hi,hr,hs⟩:=h;obtain⟨s1,s2,s3,s4,s5⟩:=(wO hp C hx hc).1 hs;obtain⟨r1,r2,r3,r4,r5⟩:=hr;rw[wS hp C hx hc] at r1 r5;rw[wi C hx] at r2;obtain⟨i1,i2,i3,i4,i5,i6,i7⟩:=hi;simp only[iP] at i1 i2 i3 i6 i7;have j:∀a∈x.args,0≤a∧a<N:=fun a ha=>(yB C (hx.args a ha)).1 (r3 _ (dt.2 ⟨a,ha,rfl⟩));have R:∀a∈x.Nn,0≤a∧a<b.Nm.length:=fun a ha=>(yA C (hx.Nn a ha)).1 (r4 _ (dt.2 ⟨a,ha,rfl⟩));by_cases h3:x.kind=3;·(
 obtain⟨j1,j2,j3,o,j5,j6⟩:=i6 h3;rw[aZ,aZ] at o;rw[aZ] at j5 j6;have hd:0≤x.dst:=by
  by_cases Y:0≤x.dst;·exact Y
  rw[ah Y,L.no] at j1;cases j1
 refine⟨8,true,false,false,by rw[h3];rfl,fun _=>⟨hd,?_⟩,(fun h=>by cases h),fun _=>?_,fun _=>?_,fun h=>?_,fun h=>?_,(fun h=>by omega),(fun h=>by cases h),(fun h=>by cases h),?_,j,R⟩
 ·unfold rU at s1
  rw[am hd] at s1;have:=gC.1 s1;omega
 ·unfold ol at s2
  rw[ah (by omega),ah (by omega),ah (by omega),ah (by omega)] at s2;exact s2.symm
 ·unfold rP at s3
  rw[ah (by omega)] at s3;exact s3.symm
 ·by_cases I:x.num=0
  ·exact I
  exact absurd (i3 I) h
 ·by_cases I:x.op=0
  ·exact I
  exact absurd (i1.1 I) h
 rw[am h3];exact⟨o,j5,j6⟩)
 obtain⟨s,a1,j1,j2,j3,o,j5,j6⟩:=i7 h3;obtain⟨_,k1,b2,kr,ka,kn,k2,kq⟩:=gl a1;have a6:x.Nn=[]:=List.map_eq_nil_iff.1 j1;rw[aZ] at j2 j3;refine⟨_,_,_,_,kq,fun hd=>?_,fun hd=>?_,fun hR=>?_,fun hA=>?_,fun h=>?_,fun h=>?_,fun h=>⟨?_,i2⟩,fun hR=>?_,fun hA=>?_,?_,j,R⟩
 ·unfold eS at o;rw[am hd] at o;have J:0≤x.dst:=by
   by_cases Y:0≤x.dst;·exact Y
   rw[ah Y,L.no] at o;cases o
  refine⟨J,?_⟩;unfold rU at s1;rw[am J] at s1;have:=gC.1 s1;omega
 ·unfold eS at o;rw[hd,ah lE] at o;have J:¬0≤x.dst:=fun Y=>by rw[am Y] at o;exact nS _ _ o
  unfold rU at s1;rw[ah J] at s1;exact s1.symm
 ·have hk:¬(4≤x.kind∧x.kind≤12):=fun h=>by rw[kr.2 ⟨h.1,h.2,h3⟩] at hR;cases hR
  unfold ol at s2;rw[ah (by omega),ah (by omega),ah (by omega),ah (by omega)] at s2;exact s2.symm
 ·have hk:¬x.kind=12:=fun h=>by rw[ka.2 h] at hA;cases hA
  unfold rP at s3;rw[ah hk] at s3;exact s3.symm
 ·by_cases I:x.num=0
  ·exact I
  exact absurd (i3 I) h
 ·by_cases I:x.op=0
  ·exact I
  exact absurd (i1.1 I) h
 ·have:=i1.2 h;omega
 ·(
 have hk:=kr.1 hR;unfold ol at r1;unfold jE;by_cases g1:x.kind=4∨x.kind=5∨x.kind=6;·rw[am g1] at r1⊢;exact lJ.1 r1
 rw[ah g1] at r1⊢;by_cases g2:x.kind=7;·rw[am g2] at r1⊢;exact lJ.1 r1
 rw[ah g2] at r1⊢;by_cases g3:x.kind=8;·rw[am g3];exact hc.1 g3
 rw[ah g3];by_cases g4:x.kind=9;·rw[am g4];exact hc.2.1 g4
 rw[ah g4];by_cases g5:x.kind=10;·rw[am g5];exact hc.2.2 g5
 rw[ah g5];rw[ah (by omega),am (by omega)] at r1;exact lJ.1 r1)
 ·have hk:=ka.1 hA
  unfold rP at r2;rw[am hk] at r2;exact lJ.1 r2
 rw[ah h3];refine⟨a6,?_⟩;by_cases g:x.kind=7
 ·rw[am g];have hR:ol c b x=rx c.Nl.length x.ref:=by unfold ol;rw[ah (by omega),am g]
  rw[hR] at r1 r5;have a7:=lJ.1 r1;have a8:rx c.Nl.length x.ref=x.ref:=gC.2 (.inl a7);rw[a8] at r5;obtain⟨g',b0,b1⟩:=C.parG x.ref.toNat (by omega);have:=r5 g g' b0;simp only[iP,aZ] at this;rw[←b1,this]
 rw[ah g,ah g];exact j2 (by omega)
theorem Gm (L:jT)(hp:dZ p)(C:Hw p c b q f N)(b5:∀b∈c.Nl,b.params≤6){x:bI}(hx:fw x)(h:zr p c b N x):EM p c q f x:=by
 obtain⟨n,dst,ref,No,j,b3,b6,b7,b8,b9,c0,b2,hR,hA,o,Y,a6⟩:=h;have hc:cQ p x:=by(
 by_cases J:x.kind=3;·exact⟨fun h=>by omega,fun h=>by omega,fun h=>by omega⟩
 obtain⟨s,hs⟩:=nc j J;obtain⟨_,k1,b1,kr,ka,kn,k2,kq⟩:=gl hs;rw[kq] at j;injection j with j;injection j with e1 e2;injection e2 with e2 R;injection R with R e4;have hm:4≤x.kind∧x.kind≤12→0≤x.ref∧x.ref<jE p c b x.kind:=fun hk=>hR (by rw[←R];exact kr.2 ⟨hk.1,hk.2,J⟩);refine⟨fun h=>?_,fun h=>?_,fun h=>?_⟩;·have:=hm (by omega);simpa [jE,h] using this
 ·have:=hm (by omega);simpa [jE,h] using this
 have:=hm (by omega);simpa [jE,h] using this)
 have a7:gI (pg p q f (iP p c.main x))=gI x:=by(
 refine(wO hp C hx hc).2 ⟨?_,?_,?_,BY Y,BY a6⟩
 ·unfold rU
  cases dst with
  |true=>have:=b3 rfl;rw[am this.1];exact gC.2 (.inl this)
  |false=>have:=b6 rfl;rw[ah (by omega),this]
 ·(
 cases ref with
 |false=>
  have h0:=b7 rfl;have hk:¬(4≤x.kind∧x.kind≤12):=by(
 by_cases J:x.kind=3;·omega
 obtain⟨s,hs⟩:=nc j J;obtain⟨_,k1,b1,kr,ka,kn,k2,kq⟩:=gl hs;rw[kq] at j;injection j with j;injection j with e1 e2;injection e2 with e2 R;injection R with R e4;intro hk;have:=kr.2 ⟨hk.1,hk.2,J⟩;rw[R] at this;cases this)
  unfold ol;rw[ah (by omega),ah (by omega),ah (by omega),ah (by omega),h0]
 |true=>
  have hm:=hR rfl;unfold jE at hm;unfold ol;by_cases g1:x.kind=4∨x.kind=5∨x.kind=6;·rw[am g1] at hm⊢;exact gC.2 (.inl hm)
  rw[ah g1] at hm⊢;by_cases g2:x.kind=7;·rw[am g2] at hm⊢;exact gC.2 (.inl hm)
  rw[ah g2] at hm⊢;by_cases g3:x.kind=8∨x.kind=9∨x.kind=10;·rw[am g3]
  rw[ah g3];rw[ah (by omega),ah (by omega),ah (by omega)] at hm;have hk:x.kind=11∨x.kind=12:=by(
 by_cases J:x.kind=3;·rw[J] at j;cases j
 obtain⟨s,hs⟩:=nc j J;obtain⟨_,k1,b1,kr,ka,kn,k2,kq⟩:=gl hs;rw[kq] at j;injection j with j;injection j with e1 e2;injection e2 with e2 R;injection R with R e4;have:=kr.1 R;omega)
  rw[am hk];exact gC.2 (.inl hm))
 unfold rP;by_cases g:x.kind=12
 ·rw[am g]
  have:No=true:=by rw[g] at j;cases j;rfl
  exact gC.2 (.inl (hA this))
 rw[ah g];cases No with
 |false=>exact(b8 rfl).symm
 |true=>
  exfalso;by_cases J:x.kind=3;·rw[J] at j;cases j
  obtain⟨s,hs⟩:=nc j J;obtain⟨_,k1,b1,kr,ka,kn,k2,kq⟩:=gl hs;rw[kq] at j;injection j with j;injection j with e1 e2;injection e2 with e2 R;injection R with R e4;exact g (ka.1 e4))
 have a8:=(wO hp C hx hc).1 a7;have c1:=wS hp C hx hc;have c5:=wi (p:=p) C hx;have c4:∀n:Nat,∀r,rx n r=r→0≤r→0≤r∧r<n:=fun n r h h0=>by have:=gC.1 h;omega
 have a1:0≤x.ref:=by
  cases ref with
  |false=>have:=b7 rfl;omega
  |true=>exact(hR rfl).1
 have b0:0≤x.No:=by
  cases No with
  |false=>have:=b8 rfl;omega
  |true=>exact(hA rfl).1
 refine⟨hc,⟨?_,?_,?_,?_,?_,?_,?_⟩,⟨?_,?_,?_,?_,?_⟩,a7⟩
 ·simp only[iP]
  constructor
  ·intro h;by_cases g:x.kind=2;·exact g
   exact absurd (c0 g) h
  intro h;have:=b2 h;omega
 ·simp only[iP]
  by_cases g:x.kind=2;·exact(b2 g).2
  have:=c0 g;omega
 ·simp only[iP];intro h;by_cases g:x.kind=1;·exact g
  exact absurd (b9 g) h
 ·intro a ha
  obtain⟨a',I,rfl⟩:=dt.1 ha;rw[L.num _ _ (.inr (.inr (.inr rfl))) (hx.args a' I)];exact be (Y a' I).1
 ·intro a ha
  obtain⟨a',I,rfl⟩:=dt.1 ha;rw[L.num _ _ (.inr (.inl rfl)) (hx.Nn a' I)];exact be (a6 a' I).1
 ·simp only[iP];intro J;rw[am J] at o;rw[J] at j;cases j;have hd:=b3 rfl;rw[am hd.1,L.num _ _ (.inr (.inr (.inr rfl))) hx.dst,aZ,aZ];exact⟨be hd.1,Cf (by omega),ah (by omega),o.1,o.2.1,o.2.2⟩
 ·(
 simp only[iP];intro J;rw[ah J] at o;obtain⟨s,hs⟩:=nc j J;obtain⟨_,k1,b1,kr,ka,kn,k2,kq⟩:=gl hs;rw[kq] at j;injection j with j;injection j with e1 e2;injection e2 with e2 R;injection R with R e4;subst e2 R e4;have c2:x.args.length≤6:=by(
 have:=o.2;by_cases g:x.kind=7
 ·rw[am g] at this;have hm:=hR (kr.2 (by omega));unfold jE at hm;rw[ah (by omega),am g] at hm;have c3:x.ref.toNat<c.Nl.length:=by omega
  rw[iL,lG c3,Option.getD_some] at this;have:=b5 _ (jy c3);omega
 rw[ah g] at this;rw[ah g] at e1;omega)
 refine⟨s,hs,by rw[o.1];rfl,fun h=>?_,by rw[aZ];exact c2,?_,?_,?_⟩
 ·have g:¬x.kind=7:=fun g=>by have:=kn.2 g;omega
  rw[ah g] at o e1;rw[aZ,e1];exact o.2
 ·unfold eS
  cases hd:s.dst with
  |true=>have:=b3 hd;rw[am rfl,am this.1,L.num _ _ (.inr (.inr (.inr rfl))) hx.dst];exact be this.1
  |false=>have:=b6 hd;rw[ah lE,ah (by omega)]
 ·unfold eS;cases hd:s.ref with
  |true=>rw[am rfl];have:=kr.1 hd;exact(DR L hp hx hc).2 ⟨fun _=>a1,fun _=>.inr a1,this.1,this.2.1⟩
  |false=>rw[ah lE];refine Cf fun hk=>?_;rw[kr.2 ⟨hk.1,hk.2,J⟩] at hd;cases hd
 unfold eS;cases hd:s.No with
 |true=>rw[am rfl,am (ka.1 hd),L.num _ _ (.inr (.inl rfl)) hx.No];exact be b0
 |false=>rw[ah lE];refine ah fun g=>?_;rw[ka.2 g] at hd;cases hd)
 ·rw[c1,a8.2.1];exact a1
 ·rw[c5,a8.2.2.1];exact b0
 ·intro a ha
  obtain⟨a',I,rfl⟩:=dt.1 ha;exact(yB C (hx.args a' I)).2 (Y a' I)
 ·intro a ha
  obtain⟨a',I,rfl⟩:=dt.1 ha;exact(yA C (hx.Nn a' I)).2 (a6 a' I)
 intro hk g hg;have b4:x.kind=7:=hk;have c6:¬x.kind=3:=by omega
 rw[ah c6,am b4] at o;rw[c1,a8.2.1] at hg;have c7:ref=true:=by rw[b4] at j;cases j;rfl
 have hm:=hR c7;unfold jE at hm;rw[ah (by omega),am b4] at hm;obtain⟨g',c8,c9⟩:=C.parG x.ref.toNat (by omega);rw[c8] at hg;cases hg;simp only[iP,aZ];have:=o.2;omega
end
end
end Go.Proofs.YtccbbkopmlnkpaaGreatDoor
