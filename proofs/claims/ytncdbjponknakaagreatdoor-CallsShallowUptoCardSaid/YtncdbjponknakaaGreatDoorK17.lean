/- Part 18 of the proof of CallsShallow (its last part says what is proved). No condition. -/
import Derived.Test.YtncdbjponknakaaGreatDoorK4
namespace Go.Proofs.YtncdbjponknakaaGreatDoor
set_option maxRecDepth 100000
set_option maxHeartbeats 8000000
open Go.RowKit Go.Proofs.Tryz
section
structure kP:Prop where
 num:∀(c:UInt8) (n:Int),c=97∨c=98∨c=102∨c=118→aV n→aB (aL c n)=decide (0≤n)
 main:aB fO=true
 no:aB gR=false
def ru (n:Nat)(r:Int):Int:=if 0≤r∧r<n then r else-1
theorem ix {n:Nat}{r:Int}:ru n r=r↔(0≤r∧r<n)∨r= -1:=by unfold ru;split<;>omega
theorem mg {n:Nat}{r:Int}:0≤ru n r↔0≤r∧r<n:=by unfold ru;split<;>omega
theorem nS (c:UInt8)(n:Int):aL c n≠gR:=by unfold aL gR tr;intro h;injection h with h;simpa using congrArg Array.toList h
theorem kZ {c:UInt8}(j:c=97∨c=98∨c=102∨c=118)(n:Int):aL c n≠fO:=by unfold aL fO tr;intro h;injection h with h;have:=congrArg Array.toList h;simp only[List.cons.injEq] at this;rcases j with rfl|rfl|rfl|rfl<;>exact absurd this.1 (by decide)
theorem wO {main i j:Int}(hi:aV i)(C:aV j)(h:qY main i=qY main j):i=j:=by
 unfold qY at h;by_cases o:i=main
 ·by_cases l:j=main
  ·omega
  rw[ap o,ae l] at h;exact absurd h.symm (kZ (.inr (.inr (.inl rfl))) _)
 by_cases l:j=main
 ·rw[ae o,ap l] at h
  exact absurd h (kZ (.inr (.inr (.inl rfl))) _)
 rw[ae o,ae l] at h;exact(pQ hi C h).2
theorem ym (L:kP){main i:Int}(hi:aV i):aB (qY main i)=true↔i=main∨0≤i:=by
 unfold qY;by_cases h:i=main;·rw[ap h];simp[L.main,h]
 rw[ae h,L.num 102 i (.inr (.inr (.inl rfl))) hi];simp[h]
theorem lT {g:Int→ByteArray}{n:Nat}(hn:n≤1000000)(o:∀i j,aV i→aV j→g i=g j→i=j){r:Int}(C:aV r):aO ((List.range n).map fun(i:Nat)=>g i) (g r)=ru n r:=by
 have l:∀i:Nat,i<n→aV (i:Int):=fun i hi=>by unfold aV;omega
 by_cases h:0≤r∧r<n
 ·unfold ru
  rw[ap h];have:aO ((List.range n).map fun(i:Nat)=>g i) (g r)=(r.toNat:Nat):=by(
 refine vL (k:=r.toNat) ?_ ?_
 ·rw[cL,ln (by omega)]
  simp only[Option.map_some];rw[Int.toNat_of_nonneg h.1]
 rw[List.nodup_iff_pairwise_ne,List.pairwise_map];refine List.Pairwise.imp_of_mem (R:=fun a b=>a≠b) ?_ (List.nodup_iff_pairwise_ne.1 List.nodup_range);intro a b J Y Z e;have:=o a b (l a (fg.1 J)) (l b (fg.1 Y)) e;omega)
  rw[this];omega
 unfold ru;rw[ae h];refine jb fun hm=>?_;obtain⟨i,hi,e⟩:=dr.1 hm;have hi:=fg.1 hi;have:=o i r (l i hi) C e;omega
theorem kY {g:Int→ByteArray}{n:Nat}(Z:n≤1000000)(o:∀i j,aV i→aV j→g i=g j→i=j):((List.range n).map fun(i:Nat)=>g i).Nodup:=by
 have l:∀i:Nat,i<n→aV (i:Int):=fun i hi=>by unfold aV;omega
 rw[List.nodup_iff_pairwise_ne,List.pairwise_map];refine List.Pairwise.imp_of_mem (R:=fun a b=>a≠b) ?_ (List.nodup_iff_pairwise_ne.1 List.nodup_range);intro a b C J Y e;have:=o a b (l a (fg.1 C)) (l b (fg.1 J)) e;omega
structure iM (x:bz):Prop where
 dst:aV x.dst
 ref:aV x.ref
 Ni:aV x.Ni
 args:∀a∈x.args,aV a
 Nh:∀a∈x.Nh,aV a
structure If (p:aH)(c:aE)(b:aw)(q:dN)(f:cD)(N:Nat):Prop where
 posA:∀r,aV r→aO (dz q) (aL 97 r)=ru c.Nd.length r
 posF:∀r,aV r→aO (fh q) (qY c.main r)=ru c.Nf.length r
 posB:∀r,aV r→aO (cn f) (aL 98 r)=ru b.Ng.length r
 posV:∀r,aV r→aO (bh f) (aL 118 r)=ru N r
 parG:∀(i:Nat),i<c.Nf.length→∃g,q.Nf[i]? =some g∧(g.params.length:Int)=(c.Nf.getD i ⟨0,0,[]⟩).params
theorem Cf {n:Nat}{l:List Int}:(∀a∈l,0≤a∧a<n)→l.map (ru n)=l:=by intro h;have:l.map (ru n)=l.map id:=List.map_congr_left fun a j=>ix.2 (.inl (h a j));rw[this,List.map_id]
section
variable {p:aH} {c:aE} {b:aw} {q:dN} {f:cD} {N:Nat}
theorem rD (l:dD p){r:Int}(o:0≤r)(C:r<p.MZ.length):eZ p (p.MZ.getD r.toNat gR)=r∧aB (p.MZ.getD r.toNat gR)=true:=by
 have j:r.toNat<p.MZ.length:=by omega
 have:=l.2.2.2.2.1 r.toNat _ (lG j);rw[iG,lG j,Option.getD_some];exact⟨by rw[this.2];omega,this.1⟩
theorem wB {l:List (ByteArray×Int)}(o:cE p l){r:Int}(C:0≤r)(J:r<l.length):fD l (l.getD r.toNat (gR,0)).1=r∧aB (l.getD r.toNat (gR,0)).1=true:=by
 have j:r.toNat<l.length:=by omega
 have:=o.2 r.toNat _ (lG j);rw[iG,lG j,Option.getD_some];exact⟨by rw[this.2.1];omega,this.1⟩
def zI (p:aH)(c:aE)(b:aw)(N:Nat)(x:bz):Prop:=
 ∃n dst ref Ni,cw x.kind=some (n,dst,ref,Ni)∧(dst=true→0≤x.dst∧x.dst<N)∧(dst=false→x.dst= -1)∧(ref=false→x.ref=0)∧(Ni=false→x.Ni=0)∧
 (x.kind≠1→x.num=0)∧(x.kind≠2→x.op=0)∧(x.kind=2→1≤x.op∧x.op≤12)∧(ref=true→0≤x.ref∧x.ref<cW p c b x.kind)∧(Ni=true→0≤x.Ni∧x.Ni<b.Ng.length)∧
 (if x.kind=3 then x.Nh.length=x.args.length∧1≤x.Nh.length∧x.Nh.length≤64 else x.Nh=[]∧(x.args.length:Int)=if x.kind=7 then(c.Nf.getD x.ref.toNat ⟨0,0,[]⟩).params else n)∧
 (∀a∈x.args,0≤a∧a<N)∧∀a∈x.Nh,0≤a∧a<b.Ng.length
def oq (c:aE)(b:aw)(x:bz):Int:=
 if x.kind=4∨x.kind=5∨x.kind=6 then ru c.Nd.length x.ref
 else if x.kind=7 then ru c.Nf.length x.ref
 else if x.kind=8∨x.kind=9∨x.kind=10 then x.ref
 else if x.kind=11∨x.kind=12 then ru b.Ng.length x.ref
 else 0
theorem xh (hp:dD p)(C:If p c b q f N){x:bz}(hx:iM x)(hc:dx p x):dv p q f (jC p c.main x)=oq c b x:=by
 unfold dv oq jC gW;simp only;by_cases j:x.kind=4∨x.kind=5∨x.kind=6;·rw[ap j,ap j,ap j,C.posA _ hx.ref]
 rw[ae j,ae j];by_cases l:x.kind=7;·rw[ap l,ap l,ae j,ap l,C.posF _ hx.ref]
 rw[ae l,ae l];by_cases o:x.kind=8
 ·have:=hc.1 o
  have R:x.kind=8∨x.kind=9∨x.kind=10:=.inl o;simp only[ae j,ae l,ap o,ap R,(wB hp.2.2.2.2.2.1 this.1 this.2).1]
 rw[ae o];by_cases J:x.kind=9
 ·have:=hc.2.1 J
  have R:x.kind=8∨x.kind=9∨x.kind=10:=.inr (.inl J);simp only[ae j,ae l,ae o,ap J,ap R,(wB hp.2.2.2.2.2.2 this.1 this.2).1]
 rw[ae J];by_cases Y:x.kind=10
 ·have:=hc.2.2 Y
  have R:x.kind=8∨x.kind=9∨x.kind=10:=.inr (.inr Y);simp only[ae j,ae l,ae o,ae J,ap Y,ap R,(rD hp this.1 this.2).1]
 have Z:¬(x.kind=8∨x.kind=9∨x.kind=10):=by omega
 rw[ae Y,ae Z];by_cases h6:x.kind=11∨x.kind=12;·simp only[ap h6,ae j,ae l,ae o,ae J,ae Y,C.posB _ hx.ref]
 simp only[ae h6,ae j,ae l]
def rG (b:aw)(x:bz):Int:=if x.kind=12 then ru b.Ng.length x.Ni else 0
theorem wm (C:If p c b q f N){x:bz}(j:iM x):dy f (jC p c.main x)=rG b x:=by
 unfold dy rG jC;simp only;by_cases h:x.kind=12;·rw[ap h,ap h,ap h,C.posB _ j.Ni]
 rw[ae h,ae h]
theorem DQ (L:kP)(l:dD p){x:bz}(o:iM x)(C:dx p x):aB (gW p c.main x)=true↔
 (x.kind=4∨x.kind=5∨x.kind=6∨x.kind=11∨x.kind=12→0≤x.ref)∧(x.kind=7→x.ref=c.main∨0≤x.ref)∧4≤x.kind∧x.kind≤12:=by
 unfold gW;by_cases h1:x.kind=4∨x.kind=5∨x.kind=6
 ·rw[ap h1,L.num _ _ (.inl rfl) o.ref,iH]
  constructor;·intro h;exact⟨fun _=>h,fun j=>by omega,by omega,by omega⟩
  intro h;exact h.1 (by omega)
 rw[ae h1];by_cases J:x.kind=7
 ·rw[ap J,ym L o.ref]
  constructor;·intro h;exact⟨fun j=>by omega,fun _=>h,by omega,by omega⟩
  intro h;exact h.2.1 J
 rw[ae J];by_cases R:x.kind=8
 ·have:=C.1 R
  rw[ap R,(wB l.2.2.2.2.2.1 this.1 this.2).2];exact⟨fun _=>⟨fun _=>this.1,fun j=>by omega,by omega,by omega⟩,fun _=>rfl⟩
 rw[ae R];by_cases Y:x.kind=9
 ·have:=C.2.1 Y
  rw[ap Y,(wB l.2.2.2.2.2.2 this.1 this.2).2];exact⟨fun _=>⟨fun _=>this.1,fun j=>by omega,by omega,by omega⟩,fun _=>rfl⟩
 rw[ae Y];by_cases Z:x.kind=10
 ·have:=C.2.2 Z
  rw[ap Z,(rD l this.1 this.2).2];exact⟨fun _=>⟨fun _=>this.1,fun j=>by omega,by omega,by omega⟩,fun _=>rfl⟩
 rw[ae Z];by_cases h6:x.kind=11∨x.kind=12
 ·rw[ap h6,L.num _ _ (.inr (.inl rfl)) o.ref,iH]
  constructor;·intro h;exact⟨fun _=>h,fun j=>by omega,by omega,by omega⟩
  intro h;exact h.1 (by omega)
 rw[ae h6,L.no];constructor;·intro h;cases h
 intro h;omega
theorem Cm {x:bz}(h:¬(4≤x.kind∧x.kind≤12)):gW p c.main x=gR:=by unfold gW;rw[ae (by omega),ae (by omega),ae (by omega),ae (by omega),ae (by omega),ae (by omega)]
theorem ib {k:Nat}{s:rT}(h:cJ k=some s):k≠3∧1≤k∧k≤13∧(s.ref=true↔4≤k∧k≤12∧k≠3)∧(s.Ni=true↔k=12)∧(s.args<0↔k=7)∧s.args≤2∧cw k=some (if k=7 then 9 else s.args,s.dst,s.ref,s.Ni):=by
 unfold cJ at h
 split at h<;>first
  |(cases h;refine⟨by decide,by decide,by decide,by decide,by decide,by decide,by decide,rfl⟩)
  |cases h
theorem ny {k:Nat}{t:Int×Bool×Bool×Bool}(h:cw k=some t)(j:k≠3):∃s,cJ k=some s:=by
 unfold cw at h
 split at h<;>first
  |exact⟨_,rfl⟩
  |exact absurd rfl j
  |cases h
def rO (N:Nat)(d:Int):Int:=if 0≤d then ru N d else-1
theorem wY (o:dD p)(C:If p c b q f N){x:bz}(j:iM x)(J:dx p x):iE (pg p q f (jC p c.main x))=iE x↔
 rO N x.dst=x.dst∧oq c b x=x.ref∧rG b x=x.Ni∧x.args.map (ru N)=x.args∧x.Nh.map (ru b.Ng.length)=x.Nh:=by
 have R:(if(jC p c.main x).dst=gR then(-1:Int) else aO (bh f) (jC p c.main x).dst)=rO N x.dst:=by(
 unfold rO jC;simp only;by_cases h:0≤x.dst;·rw[ap h,ap h,ae (nS _ _),C.posV _ j.dst]
 rw[ae h,ae h,ap rfl])
 have Y:(jC p c.main x).args.map (aO (bh f))=x.args.map (ru N):=by unfold jC;rw[List.map_map];exact List.map_congr_left fun a l=>C.posV a (j.args a l)
 have Z:(jC p c.main x).Nh.map (aO (cn f))=x.Nh.map (ru b.Ng.length):=by unfold jC;rw[List.map_map];exact List.map_congr_left fun a l=>C.posB a (j.Nh a l)
 unfold iE pg;rw[R,Y,Z,xh o C j J,wm C j];simp only[jC,bz.mk.injEq,true_and,and_true]
theorem yI (C:If p c b q f N){a:Int}(j:aV a):aL 118 a∈bh f↔0≤a∧a<N:=by rw[←cm,C.posV a j,mg]
theorem yG (C:If p c b q f N){a:Int}(j:aV a):aL 98 a∈cn f↔0≤a∧a<b.Ng.length:=by rw[←cm,C.posB a j,mg]
def EO (p:aH)(c:aE)(q:dN)(f:cD)(x:bz):Prop:=dx p x∧fj (jC p c.main x)∧mO p q f (jC p c.main x)∧iE (pg p q f (jC p c.main x))=iE x
theorem Gs (L:kP)(hp:dD p)(C:If p c b q f N){x:bz}(hx:iM x)(h:EO p c q f x):zI p c b N x:=by
 obtain⟨hc,hi,hr,hs⟩:=h;obtain⟨s1,s2,Z,s4,s5⟩:=(wY hp C hx hc).1 hs;obtain⟨r1,r2,r3,r4,r5⟩:=hr;rw[xh hp C hx hc] at r1 r5;rw[wm C hx] at r2;obtain⟨i1,i2,i3,i4,i5,i6,i7⟩:=hi;simp only[jC] at i1 i2 i3 i6 i7;have j:∀a∈x.args,0≤a∧a<N:=fun a ha=>(yI C (hx.args a ha)).1 (r3 _ (dr.2 ⟨a,ha,rfl⟩));have R:∀a∈x.Nh,0≤a∧a<b.Ng.length:=fun a ha=>(yG C (hx.Nh a ha)).1 (r4 _ (dr.2 ⟨a,ha,rfl⟩));by_cases h3:x.kind=3;·(
 obtain⟨j1,j2,j3,l,j5,j6⟩:=i6 h3;rw[ce,ce] at l;rw[ce] at j5 j6;have hd:0≤x.dst:=by
  by_cases Y:0≤x.dst;·exact Y
  rw[ae Y,L.no] at j1;cases j1
 refine⟨8,true,false,false,by rw[h3];rfl,fun _=>⟨hd,?_⟩,(fun h=>by cases h),fun _=>?_,fun _=>?_,fun h=>?_,fun h=>?_,(fun h=>by omega),(fun h=>by cases h),(fun h=>by cases h),?_,j,R⟩
 ·unfold rO at s1
  rw[ap hd] at s1;have:=ix.1 s1;omega
 ·unfold oq at s2
  rw[ae (by omega),ae (by omega),ae (by omega),ae (by omega)] at s2;exact s2.symm
 ·unfold rG at Z
  rw[ae (by omega)] at Z;exact Z.symm
 ·by_cases o:x.num=0
  ·exact o
  exact absurd (i3 o) h
 ·by_cases o:x.op=0
  ·exact o
  exact absurd (i1.1 o) h
 rw[ap h3];exact⟨l,j5,j6⟩)
 obtain⟨s,a1,j1,j2,j3,l,j5,j6⟩:=i7 h3;obtain⟨_,k1,b2,kr,ka,kn,k2,kq⟩:=ib a1;have a6:x.Nh=[]:=List.map_eq_nil_iff.1 j1;rw[ce] at j2 j3;refine⟨_,_,_,_,kq,fun hd=>?_,fun hd=>?_,fun hR=>?_,fun hA=>?_,fun h=>?_,fun h=>?_,fun h=>⟨?_,i2⟩,fun hR=>?_,fun hA=>?_,?_,j,R⟩
 ·unfold fS at l;rw[ap hd] at l;have J:0≤x.dst:=by
   by_cases Y:0≤x.dst;·exact Y
   rw[ae Y,L.no] at l;cases l
  refine⟨J,?_⟩;unfold rO at s1;rw[ap J] at s1;have:=ix.1 s1;omega
 ·unfold fS at l;rw[hd,ae oG] at l;have J:¬0≤x.dst:=fun Y=>by rw[ap Y] at l;exact nS _ _ l
  unfold rO at s1;rw[ae J] at s1;exact s1.symm
 ·have hk:¬(4≤x.kind∧x.kind≤12):=fun h=>by rw[kr.2 ⟨h.1,h.2,h3⟩] at hR;cases hR
  unfold oq at s2;rw[ae (by omega),ae (by omega),ae (by omega),ae (by omega)] at s2;exact s2.symm
 ·have hk:¬x.kind=12:=fun h=>by rw[ka.2 h] at hA;cases hA
  unfold rG at Z;rw[ae hk] at Z;exact Z.symm
 ·by_cases o:x.num=0
  ·exact o
  exact absurd (i3 o) h
 ·by_cases o:x.op=0
  ·exact o
  exact absurd (i1.1 o) h
 ·have:=i1.2 h;omega
 ·(
 have hk:=kr.1 hR;unfold oq at r1;unfold cW;by_cases g1:x.kind=4∨x.kind=5∨x.kind=6;·rw[ap g1] at r1⊢;exact mg.1 r1
 rw[ae g1] at r1⊢;by_cases g2:x.kind=7;·rw[ap g2] at r1⊢;exact mg.1 r1
 rw[ae g2] at r1⊢;by_cases g3:x.kind=8;·rw[ap g3];exact hc.1 g3
 rw[ae g3];by_cases g4:x.kind=9;·rw[ap g4];exact hc.2.1 g4
 rw[ae g4];by_cases g5:x.kind=10;·rw[ap g5];exact hc.2.2 g5
 rw[ae g5];rw[ae (by omega),ap (by omega)] at r1;exact mg.1 r1)
 ·have hk:=ka.1 hA
  unfold rG at r2;rw[ap hk] at r2;exact mg.1 r2
 rw[ae h3];refine⟨a6,?_⟩;by_cases g:x.kind=7
 ·rw[ap g];have hR:oq c b x=ru c.Nf.length x.ref:=by unfold oq;rw[ae (by omega),ap g]
  rw[hR] at r1 r5;have a7:=mg.1 r1;have a8:ru c.Nf.length x.ref=x.ref:=ix.2 (.inl a7);rw[a8] at r5;obtain⟨g',b0,b1⟩:=C.parG x.ref.toNat (by omega);have:=r5 g g' b0;simp only[jC,ce] at this;rw[←b1,this]
 rw[ae g,ae g];exact j2 (by omega)
theorem Gp (L:kP)(hp:dD p)(C:If p c b q f N)(b5:∀b∈c.Nf,b.params≤6){x:bz}(hx:iM x)(h:zI p c b N x):EO p c q f x:=by
 obtain⟨n,dst,ref,Ni,j,b3,b6,b7,b8,b9,c0,b2,hR,hA,l,Y,a6⟩:=h;have hc:dx p x:=by(
 by_cases J:x.kind=3;·exact⟨fun h=>by omega,fun h=>by omega,fun h=>by omega⟩
 obtain⟨s,hs⟩:=ny j J;obtain⟨_,k1,b1,kr,ka,kn,k2,kq⟩:=ib hs;rw[kq] at j;injection j with j;injection j with e1 Z;injection Z with Z R;injection R with R e4;have hm:4≤x.kind∧x.kind≤12→0≤x.ref∧x.ref<cW p c b x.kind:=fun hk=>hR (by rw[←R];exact kr.2 ⟨hk.1,hk.2,J⟩);refine⟨fun h=>?_,fun h=>?_,fun h=>?_⟩;·have:=hm (by omega);simpa [cW,h] using this
 ·have:=hm (by omega);simpa [cW,h] using this
 have:=hm (by omega);simpa [cW,h] using this)
 have a7:iE (pg p q f (jC p c.main x))=iE x:=by(
 refine(wY hp C hx hc).2 ⟨?_,?_,?_,Cf Y,Cf a6⟩
 ·unfold rO
  cases dst with
  |true=>have:=b3 rfl;rw[ap this.1];exact ix.2 (.inl this)
  |false=>have:=b6 rfl;rw[ae (by omega),this]
 ·(
 cases ref with
 |false=>
  have h0:=b7 rfl;have hk:¬(4≤x.kind∧x.kind≤12):=by(
 by_cases J:x.kind=3;·omega
 obtain⟨s,hs⟩:=ny j J;obtain⟨_,k1,b1,kr,ka,kn,k2,kq⟩:=ib hs;rw[kq] at j;injection j with j;injection j with e1 Z;injection Z with Z R;injection R with R e4;intro hk;have:=kr.2 ⟨hk.1,hk.2,J⟩;rw[R] at this;cases this)
  unfold oq;rw[ae (by omega),ae (by omega),ae (by omega),ae (by omega),h0]
 |true=>
  have hm:=hR rfl;unfold cW at hm;unfold oq;by_cases g1:x.kind=4∨x.kind=5∨x.kind=6;·rw[ap g1] at hm⊢;exact ix.2 (.inl hm)
  rw[ae g1] at hm⊢;by_cases g2:x.kind=7;·rw[ap g2] at hm⊢;exact ix.2 (.inl hm)
  rw[ae g2] at hm⊢;by_cases g3:x.kind=8∨x.kind=9∨x.kind=10;·rw[ap g3]
  rw[ae g3];rw[ae (by omega),ae (by omega),ae (by omega)] at hm;have hk:x.kind=11∨x.kind=12:=by(
 by_cases J:x.kind=3;·rw[J] at j;cases j
 obtain⟨s,hs⟩:=ny j J;obtain⟨_,k1,b1,kr,ka,kn,k2,kq⟩:=ib hs;rw[kq] at j;injection j with j;injection j with e1 Z;injection Z with Z R;injection R with R e4;have:=kr.1 R;omega)
  rw[ap hk];exact ix.2 (.inl hm))
 unfold rG;by_cases g:x.kind=12
 ·rw[ap g]
  have:Ni=true:=by rw[g] at j;cases j;rfl
  exact ix.2 (.inl (hA this))
 rw[ae g];cases Ni with
 |false=>exact(b8 rfl).symm
 |true=>
  exfalso;by_cases J:x.kind=3;·rw[J] at j;cases j
  obtain⟨s,hs⟩:=ny j J;obtain⟨_,k1,b1,kr,ka,kn,k2,kq⟩:=ib hs;rw[kq] at j;injection j with j;injection j with e1 Z;injection Z with Z R;injection R with R e4;exact g (ka.1 e4))
 have a8:=(wY hp C hx hc).1 a7;have c1:=xh hp C hx hc;have c5:=wm (p:=p) C hx;have c4:∀n:Nat,∀r,ru n r=r→0≤r→0≤r∧r<n:=fun n r h h0=>by have:=ix.1 h;omega
 have a1:0≤x.ref:=by
  cases ref with
  |false=>have:=b7 rfl;omega
  |true=>exact(hR rfl).1
 have b0:0≤x.Ni:=by
  cases Ni with
  |false=>have:=b8 rfl;omega
  |true=>exact(hA rfl).1
 refine⟨hc,⟨?_,?_,?_,?_,?_,?_,?_⟩,⟨?_,?_,?_,?_,?_⟩,a7⟩
 ·simp only[jC]
  constructor
  ·intro h;by_cases g:x.kind=2;·exact g
   exact absurd (c0 g) h
  intro h;have:=b2 h;omega
 ·simp only[jC]
  by_cases g:x.kind=2;·exact(b2 g).2
  have:=c0 g;omega
 ·simp only[jC];intro h;by_cases g:x.kind=1;·exact g
  exact absurd (b9 g) h
 ·intro a ha
  obtain⟨a',o,rfl⟩:=dr.1 ha;rw[L.num _ _ (.inr (.inr (.inr rfl))) (hx.args a' o)];exact bL (Y a' o).1
 ·intro a ha
  obtain⟨a',o,rfl⟩:=dr.1 ha;rw[L.num _ _ (.inr (.inl rfl)) (hx.Nh a' o)];exact bL (a6 a' o).1
 ·simp only[jC];intro J;rw[ap J] at l;rw[J] at j;cases j;have hd:=b3 rfl;rw[ap hd.1,L.num _ _ (.inr (.inr (.inr rfl))) hx.dst,ce,ce];exact⟨bL hd.1,Cm (by omega),ae (by omega),l.1,l.2.1,l.2.2⟩
 ·(
 simp only[jC];intro J;rw[ae J] at l;obtain⟨s,hs⟩:=ny j J;obtain⟨_,k1,b1,kr,ka,kn,k2,kq⟩:=ib hs;rw[kq] at j;injection j with j;injection j with e1 Z;injection Z with Z R;injection R with R e4;subst Z R e4;have c2:x.args.length≤6:=by(
 have:=l.2;by_cases g:x.kind=7
 ·rw[ap g] at this;have hm:=hR (kr.2 (by omega));unfold cW at hm;rw[ae (by omega),ap g] at hm;have c3:x.ref.toNat<c.Nf.length:=by omega
  rw[iG,lG c3,Option.getD_some] at this;have:=b5 _ (eL c3);omega
 rw[ae g] at this;rw[ae g] at e1;omega)
 refine⟨s,hs,by rw[l.1];rfl,fun h=>?_,by rw[ce];exact c2,?_,?_,?_⟩
 ·have g:¬x.kind=7:=fun g=>by have:=kn.2 g;omega
  rw[ae g] at l e1;rw[ce,e1];exact l.2
 ·unfold fS
  cases hd:s.dst with
  |true=>have:=b3 hd;rw[ap rfl,ap this.1,L.num _ _ (.inr (.inr (.inr rfl))) hx.dst];exact bL this.1
  |false=>have:=b6 hd;rw[ae oG,ae (by omega)]
 ·unfold fS;cases hd:s.ref with
  |true=>rw[ap rfl];have:=kr.1 hd;exact(DQ L hp hx hc).2 ⟨fun _=>a1,fun _=>.inr a1,this.1,this.2.1⟩
  |false=>rw[ae oG];refine Cm fun hk=>?_;rw[kr.2 ⟨hk.1,hk.2,J⟩] at hd;cases hd
 unfold fS;cases hd:s.Ni with
 |true=>rw[ap rfl,ap (ka.1 hd),L.num _ _ (.inr (.inl rfl)) hx.Ni];exact bL b0
 |false=>rw[ae oG];refine ae fun g=>?_;rw[ka.2 g] at hd;cases hd)
 ·rw[c1,a8.2.1];exact a1
 ·rw[c5,a8.2.2.1];exact b0
 ·intro a ha
  obtain⟨a',o,rfl⟩:=dr.1 ha;exact(yI C (hx.args a' o)).2 (Y a' o)
 ·intro a ha
  obtain⟨a',o,rfl⟩:=dr.1 ha;exact(yG C (hx.Nh a' o)).2 (a6 a' o)
 intro hk g hg;have b4:x.kind=7:=hk;have c6:¬x.kind=3:=by omega
 rw[ae c6,ap b4] at l;rw[c1,a8.2.1] at hg;have c7:ref=true:=by rw[b4] at j;cases j;rfl
 have hm:=hR c7;unfold cW at hm;rw[ae (by omega),ap b4] at hm;obtain⟨g',c8,c9⟩:=C.parG x.ref.toNat (by omega);rw[c8] at hg;cases hg;simp only[jC,ce];have:=l.2;omega
end
end
end Go.Proofs.YtncdbjponknakaaGreatDoor
