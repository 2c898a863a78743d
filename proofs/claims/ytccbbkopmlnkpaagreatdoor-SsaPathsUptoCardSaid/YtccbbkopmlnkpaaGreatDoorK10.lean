/- Part 11 of the proof (its last part says what is proved). No condition. -/
import Derived.Test.YtccbbkopmlnkpaaGreatDoorK9
namespace Go.Proofs.YtccbbkopmlnkpaaGreatDoor
set_option maxRecDepth 100000
set_option maxHeartbeats 8000000
open Go.RowKit Go.Proofs.Tryz
section
structure il (c:aU):Prop where
 main:aS c.main
 ops:∀b∈c.Nl,∀x∈b.Nm.flatten,fw x
theorem oQ {α β γ:Type}{g:Nat→α→β}{h:β→γ}{h':Nat→γ}(e:∀i a,h (g i a)=h' i)(l:List α):(l.mapIdx g).map h=(List.range l.length).map h':=by
 apply List.ext_getElem?;intro i;rw[cy,jz,cy];by_cases hi:i<l.length
 ·rw[lG hi,nZ hi]
  simp only[Option.map_some,e]
 rw[kS (by omega),kS (by simp;omega)];rfl
theorem uE (p:aI)(c:aU):cS (cg p c)=(List.range c.Nk.length).map fun(i:Nat)=>aG 97 i:=oQ (g:=sn p) (h:=fun a=>a.name) (h':=fun(i:Nat)=>aG 97 i) (fun _ _=>rfl) c.Nk
theorem mL (p:aI)(c:aU):ee (cg p c)=(List.range c.Nl.length).map fun(i:Nat)=>qZ c.main i:=oQ (g:=aV p c.main) (h:=fun a=>a.name) (h':=fun(i:Nat)=>qZ c.main i) (fun _ _=>rfl) c.Nl
theorem uG (p:aI)(m:Int)(i:Nat)(b:av):bg (aV p m i b)=(List.range b.Nm.length).map fun(i:Nat)=>aG 98 i:=oQ (g:=du p m) (h:=fun a=>a.name) (h':=fun(i:Nat)=>aG 98 i) (fun _ _=>rfl) b.Nm
def xV (b:av):List Int:=(b.Nm.flatten.filter fun x=>decide (0≤x.dst)).map fun x=>x.dst
def V (b:av):List Int:=((List.range b.params.toNat).map fun(k:Nat)=>(k:Int))++xV b
theorem yx {α β γ:Type}{g:Nat→α→β}{h:β→List γ}{h':α→List γ}(e:∀i a,h (g i a)=h' a)(l:List α):(l.mapIdx g).flatMap h=l.flatMap h':=by
 rw[List.flatMap_def,List.flatMap_def];congr 1;apply List.ext_getElem?;intro i;rw[cy,jz,cy];cases l[i]? with
 |none=>rfl
 |some a=>simp only[Option.map_some,e]
theorem ke {α β γ:Type}{g:Nat→α→β}{h:β→γ}{h':α→γ}(e:∀i a,h (g i a)=h' a)(l:List α):(l.mapIdx g).map h=l.map h':=by
 apply List.ext_getElem?;intro i;rw[cy,jz,cy];cases l[i]? with
 |none=>rfl
 |some a=>simp only[Option.map_some,e]
theorem oJ (p:aI)(m:Int):∀l:List bI,(l.map fun x=>(iP p m x).dst).filter (fun s=>decide (s≠dQ))=((l.filter fun x=>decide (0≤x.dst)).map fun x=>x.dst).map (aG 118)
 | []=>rfl
 |x::l=>by(
 rw[List.map_cons,List.filter_cons,List.filter_cons];by_cases h:0≤x.dst
 ·have e:(iP p m x).dst=aG 118 x.dst:=am h
  rw[e,am (be (nS _ _)),am (be h),oJ p m l];rfl
 have e:(iP p m x).dst=dQ:=ah h;rw[e,ah (by simp),ah (by simp;omega),oJ p m l])
theorem CK (p:aI)(m:Int)(i:Nat)(b:av):sx (aV p m i b)=(xV b).map (aG 118):=by
 unfold sx;have:((aV p m i b).Nm.flatMap fun b=>b.code.map fun x=>x.dst)=b.Nm.flatten.map fun x=>(iP p m x).dst:=by show(b.Nm.mapIdx (du p m)).flatMap (fun b=>b.code.map fun x=>x.dst)=_;rw[yx (h':=fun l=>l.map fun x=>(iP p m x).dst) fun _ _=>by simp[du]];rw[List.flatMap_def,List.map_flatten]
 rw[this];exact oJ p m _
theorem js (p:aI)(m:Int)(i:Nat)(b:av):aO (aV p m i b)=(V b).map (aG 118):=by unfold aO V;rw[CK,gU,List.map_map];rfl
theorem uU {α:Type}{q:α→Bool}{l:List α}{k:Nat}{x:α}(h:l[k]? =some x)(j:q x=true):(l.filter q)[((l.take k).filter q).length]? =some x:=by
 obtain⟨o,rfl⟩:=lS.1 h;have e:l=l.take k++l[k]::l.drop (k+1):=by rw[←List.drop_eq_getElem_cons o,List.take_append_drop]
 have:l.filter q=(l.take k).filter q++l[k]::(l.drop (k+1)).filter q:=by
  conv=>lhs;rw[e]
  rw[qj,List.filter_cons,am j]
 rw[this,jQ (bj _),Nat.sub_self];rfl
def cD (x:bI):Bool:=match mX x.kind with|some (_,d,_,_)=>d|none=>false
theorem fG (l:List bI):gL l=(l.filter cD).length:=rfl
theorem Fu {l:List bI}(h:∀x∈l,cD x=decide (0≤x.dst)):gL l=(l.filter fun x=>decide (0≤x.dst)).length:=by rw[fG,List.filter_congr h]
theorem Ju {p:aI}{c:aU}{b:av}{N:Nat}{x:bI}(h:zr p c b N x):cD x=decide (0≤x.dst):=by
 obtain⟨n,dst,ref,No,j,o,C,_⟩:=h;unfold cD;rw[j];cases dst with
 |true=>exact(be (o rfl).1).symm
 |false=>have:=C rfl;exact(cN (by omega)).symm
theorem Ml {p:aI}{c:aU}{b:av}{N:Nat}{x:bI}{next:Int}(o:b.vars=N)(h:zr p c b N x)(C:0≤x.dst→x.dst=next):ul p c b next x:=by
 obtain⟨n,dst,ref,No,j,I,J,r⟩:=h;refine⟨n,dst,ref,No,j,?_,by rw[o];exact r⟩;cases dst with
 |true=>rw[am rfl];exact C (I rfl).1
 |false=>rw[ah lE];exact J rfl
theorem Mr {p:aI}{c:aU}{b:av}{N:Nat}{x:bI}{next:Int}(C:b.vars=N)(h:ul p c b next x)(J:0≤next)(I:cD x=true→next<N):zr p c b N x:=by
 obtain⟨n,dst,ref,No,j,o,r⟩:=h;refine⟨n,dst,ref,No,j,fun h=>?_,fun h=>?_,by rw[C] at r;exact r⟩
 ·rw[am h] at o
  have:cD x=true:=by unfold cD;rw[j];exact h
  have:=I this;omega
 rw[h,ah lE] at o;exact o
theorem yO {l:List Int}(h:∀(k:Nat) x,l[k]? =some x→x=k):l=(List.range l.length).map fun(k:Nat)=>(k:Int):=by
 apply List.ext_getElem?;intro k;rw[cy];by_cases j:k<l.length;·rw[nZ j,lG j,h k _ (lG j)];rfl
 rw[kS (by omega),kS (by simp;omega)];rfl
theorem sZ:∀i j,aS i→aS j→aG 118 i=aG 118 j→i=j:=fun _ _ o C h=>(pS o C h).2
theorem vw:∀i j,aS i→aS j→aG 97 i=aG 97 j→i=j:=fun _ _ o C h=>(pS o C h).2
theorem vx:∀i j,aS i→aS j→aG 98 i=aG 98 j→i=j:=fun _ _ o C h=>(pS o C h).2
section
variable {p:aI} {c:aU}
theorem xQ (J:c.Nk.length≤16)(R:c.Nl.length≤64)(C:∀b∈c.Nl,0≤b.params){i:Nat}{b:av}(Y:b.Nm.length≤64){N:Nat}(hN:N≤1000000)
 (hV:V b=(List.range N).map fun(k:Nat)=>(k:Int)):Hw p c b (cg p c) (aV p c.main i b) N:=by
 refine⟨fun r o=>?_,fun r o=>?_,fun r o=>?_,fun r o=>?_,fun j I=>?_⟩;·rw[uE];exact lq (by omega) vw o
 ·rw[mL];exact lq (by omega) (fun _ _ h1 h2 h=>wF h1 h2 h) o
 ·rw[uG];exact lq (by omega) vx o
 ·rw[js,hV,List.map_map];exact lq hN sZ o
 refine⟨aV p c.main j c.Nl[j],?_,?_⟩
 ·show(c.Nl.mapIdx (aV p c.main))[j]? =_
  rw[jz,lG I];rfl
 rw[iL,lG I,Option.getD_some];have:=C _ (jy I);simp only[aV,aZ,List.length_range];omega
theorem xK (i:Nat)(b:av):(gy p (cg p c) (aV p c.main i b)).Nm=b.Nm.map fun l=>l.map fun x=>pg p (cg p c) (aV p c.main i b) (iP p c.main x):=by show(b.Nm.mapIdx (du p c.main)).map (fun k=>k.code.map (pg p (cg p c) (aV p c.main i b)))=_;exact ke (fun _ _=>by simp[du]) _
theorem vL (i:Nat)(b:av):((gy p (cg p c) (aV p c.main i b)).Nm.map fun l=>l.map gI)=(b.Nm.map fun l=>l.map gI)↔∀l∈b.Nm,∀x∈l,gI (pg p (cg p c) (aV p c.main i b) (iP p c.main x))=gI x:=by
 rw[xK,List.map_map,List.map_inj_left];refine⟨fun h l j x o=>?_,fun h l j=>?_⟩
 ·have:=h l j
  simp only[Function.comp,List.map_map] at this;exact List.map_inj_left.1 this x o
 simp only[Function.comp,List.map_map];exact List.map_inj_left.2 fun x o=>h l j x o
theorem sH (l:List bI)(k:Nat)(m:Int):((du p m k l).code.map fun x=>x.kind)=l.map fun x=>x.kind:=by simp[du,iP]
theorem Iz (L:jT)(hp:dZ p)(b5:c.Nk.length≤16)(b6:c.Nl.length≤64)(I:∀b∈c.Nl,0≤b.params∧b.params≤6){i:Nat}{b:av}(hb:c.Nl[i]? =some b)(hn:∀x∈b.Nm.flatten,fw x)(c6:b.Nm.flatten.length≤4096)
 (b0:ly p b) (b7:el (aV p c.main i b)) (b1:lz p (cg p c) (aV p c.main i b)) (Y:((V b).length:Int)=b.vars)
 (hs:∀l∈b.Nm,∀x∈l,gI (pg p (cg p c) (aV p c.main i b) (iP p c.main x))=gI x):ox p c b:=by
 have a7:b∈c.Nl:=mG hb;obtain⟨f1,f2,f3,f4,f5,f6⟩:=b7;obtain⟨r1,r2,r3⟩:=b1;have b8:(aV p c.main i b).Nm.length=b.Nm.length:=by simp[aV]
 rw[b8] at f4 f5;rw[js] at r1;have c7:∀d∈V b,aS d:=by(
 intro d j;rcases dV.1 j with j|j
 ·obtain⟨k,J,rfl⟩:=dt.1 j
  have:=dW.1 J;have:=I b a7;unfold aS;omega
 obtain⟨x,o,rfl⟩:=dt.1 j;exact(hn x (List.mem_filter.1 o).1).dst)
 have b2:∀(k:Nat) d,(V b)[k]? =some d→d=k:=by(
 intro k d j;by_cases J:k<b.params.toNat
 ·unfold V at j
  rw[lC (by simpa using J),cy,nZ J] at j;exact(mB j).symm
 have b9:d∈xV b:=by unfold V at j;rw[jQ (by simpa using J)] at j;exact mG j
 obtain⟨x,o,rfl⟩:=dt.1 b9;obtain⟨c0,c1⟩:=List.mem_filter.1 o;obtain⟨l,R,a8⟩:=List.mem_flatten.1 c0;have c2:=hs l R x a8;have c3:0≤x.dst:=of_decide_eq_true c1;have h1:(if(iP p c.main x).dst=dQ then(-1:Int) else aH (aO (aV p c.main i b)) (iP p c.main x).dst)=x.dst:=congrArg bI.dst c2;have e:(iP p c.main x).dst=aG 118 x.dst:=am c3;rw[e,ah (nS _ _),js,vC (k:=k) (by rw[cy,j];rfl) r1] at h1;exact h1.symm)
 have hV:=yO b2;have c4:(V b).length≤1000000:=by have h1:=I b a7;have h2:(b.Nm.flatten.filter fun x=>decide (0≤x.dst)).length≤b.Nm.flatten.length:=List.length_filter_le _ _;unfold V xV;rw[eV,aZ,aZ,List.length_range];omega
 have C:Hw p c b (cg p c) (aV p c.main i b) (V b).length:=xQ b5 b6 (fun b hb=>(I b hb).1) (by omega) c4 hV;have a1:∀l∈b.Nm,∃k,du p c.main k l∈(aV p c.main i b).Nm:=by intro l R;obtain⟨k,J⟩:=fB.1 R;refine⟨k,fB.2 ⟨k,?_⟩⟩;show(b.Nm.mapIdx (du p c.main))[k]? =_;rw[jz,J];rfl
 have c5:∀l∈b.Nm,∀x∈l,zr p c b (V b).length x:=by intro l R x o;obtain⟨k,J⟩:=a1 l R;have b3:iP p c.main x∈(du p c.main k l).code:=dt.2 ⟨x,o,rfl⟩;exact Gs L hp C (hn x (List.mem_flatten.2 ⟨l,R,o⟩)) ⟨b0.2.2 l R x o,(f6 _ J).2 _ b3,(r3 _ J).2 _ b3,hs l R x o⟩
 have b4:∀x∈b.Nm.flatten,zr p c b (V b).length x:=by intro x o;obtain⟨l,R,a8⟩:=List.mem_flatten.1 o;exact c5 l R x a8
 have h0:=I b a7;have a6:∀k,gL (b.Nm.flatten.take k)=((b.Nm.flatten.take k).filter fun x=>decide (0≤x.dst)).length:=fun k=>Fu fun x o=>Ju (b4 x (List.mem_of_mem_take o));refine⟨h0.1,h0.2,f4,f5,fun l R=>?_,fun k x o=>?_,?_⟩
 ·obtain⟨k,J⟩:=a1 l R
  have:=(r3 _ J).1;rwa [sH] at this
 ·refine Ml Y.symm (b4 x (mG o)) fun j=>?_;have h1:=uU (q:=fun x:bI=>decide (0≤x.dst)) o (be j);have h2:(V b)[b.params.toNat+((b.Nm.flatten.take k).filter fun x=>decide (0≤x.dst)).length]? =some x.dst:=by unfold V xV;rw[jQ (by simp),aZ,List.length_range,Nat.add_sub_cancel_left,cy,h1];rfl
  have:=b2 _ _ h2;rw[this,a6 k];omega
 have h1:=a6 b.Nm.flatten.length;rw[jx] at h1;rw[h1,←Y];unfold V xV;rw[eV,aZ,aZ,List.length_range];omega
theorem uO {R:Int}(h0:0≤R):∀(l:List bI),(∀(k:Nat) x,l[k]? =some x→x.dst=if cD x=true then R+gL (l.take k) else-1)→
 ((l.filter fun x=>decide (0≤x.dst)).map fun x=>x.dst)=(List.range (gL l)).map fun(j:Nat)=>R+(j:Int):=by
 intro l;induction Y:l.length generalizing l with
 |zero=>intro _;rw[List.length_eq_zero_iff.1 Y];rfl
 |succ n ih=>
  intro h;have o:l≠[]:=by rintro rfl;simp at Y
  obtain⟨C,x,rfl⟩:∃C x,l=C++[x]:=⟨l.dropLast,l.getLast o,(List.dropLast_concat_getLast o).symm⟩;have a1:C.length=n:=by simpa using Y
  have a6:=ih C a1 fun k y hy=>by have hk:=(lS.1 hy).1;have:=h k y (by rw[lC hk];exact hy);rwa [List.take_append_of_le_length (by omega)] at this
  have I:=h C.length x (by rw[jQ (bj _),Nat.sub_self];rfl);rw[List.take_left] at I;rw[qj,gU,a6,fG,fG,qj,eV];by_cases J:cD x=true
  ·rw[am J] at I;have hd:0≤x.dst:=by omega
   rw[List.filter_cons,am (be hd),List.filter_cons,am J];simp only[List.filter_nil,List.map_cons,List.map_nil,lD,List.length_nil,dU];rw[List.range_succ,gU,I];rfl
  rw[ah J] at I;rw[List.filter_cons,ah (by simp;omega),List.filter_cons,ah J];simp
theorem Jw (L:jT)(hp:dZ p)(b3:c.Nk.length≤16)(b4:c.Nl.length≤64)(a7:∀b∈c.Nl,0≤b.params∧b.params≤6){i:Nat}{b:av}(hb:c.Nl[i]? =some b)(hn:∀x∈b.Nm.flatten,fw x)(b8:b.Nm.flatten.length≤4096)
 (h:ox p c b):ly p b∧el (aV p c.main i b)∧lz p (cg p c) (aV p c.main i b)∧((V b).length:Int)=b.vars∧
 ∀l∈b.Nm,∀x∈l,gI (pg p (cg p c) (aV p c.main i b) (iP p c.main x))=gI x:=by
 have b9:b∈c.Nl:=mG hb;have hi:i<c.Nl.length:=(lS.1 hb).1;obtain⟨g1,g2,g3,g4,g5,g6,g7⟩:=h;have b0:∀(k:Nat) x,b.Nm.flatten[k]? =some x→x.dst=if cD x=true then b.params+gL (b.Nm.flatten.take k) else-1:=by
  intro k x I;obtain⟨n,dst,ref,No,b5,h1,_⟩:=g6 k x I;have:cD x=dst:=by unfold cD;rw[b5]
  rw[this];exact h1
 have b1:=uO g1 _ b0;have b2:(V b).length=b.params.toNat+gL b.Nm.flatten:=by unfold V xV;rw[b1,eV,aZ,aZ,List.length_range,List.length_range]
 have b6:∀(k:Nat) d,(V b)[k]? =some d→d=k:=by(
 intro k d hd;unfold V xV at hd;rw[b1] at hd;by_cases J:k<b.params.toNat
 ·rw[lC (by simpa using J),cy,nZ J] at hd
  exact(mB hd).symm
 rw[jQ (by simpa using J),cy,aZ,List.length_range] at hd;by_cases b7:k-b.params.toNat<gL b.Nm.flatten
 ·rw[nZ b7] at hd
  have:d=b.params+((k-b.params.toNat:Nat):Int):=(mB hd).symm;omega
 rw[kS (by simp;omega)] at hd;cases hd)
 have hV:=yO b6;have c0:gL b.Nm.flatten≤b.Nm.flatten.length:=List.length_filter_le _ _;have C:Hw p c b (cg p c) (aV p c.main i b) (V b).length:=xQ b3 b4 (fun b hb=>(a7 b hb).1) (by omega) (by omega) hV;have R:((V b).length:Int)=b.vars:=by rw[b2,g7];omega
 have a1:∀x∈b.Nm.flatten,EM p c (cg p c) (aV p c.main i b) x:=by intro x I;obtain⟨k,J⟩:=fB.1 I;refine Gm L hp C (fun b hb=>(a7 b hb).2) (hn x I) (Mr R.symm (g6 k x J) (by omega) fun hf=>?_);have h1:=uU (q:=cD) J hf;have h2:=(lS.1 h1).1;rw[b2,fG,fG];omega
 have a8:∀k∈(aV p c.main i b).Nm,∃j,∃l∈b.Nm,j<b.Nm.length∧k=du p c.main j l:=by(
 intro k J;obtain⟨j,hj⟩:=fB.1 J;have Y:(b.Nm.mapIdx (du p c.main))[j]? =some k:=hj;rw[jz] at Y;cases o:b.Nm[j]? with
 |none=>rw[o] at Y;cases Y
 |some l=>rw[o] at Y;exact⟨j,l,mG o,(lS.1 o).1,(mB Y).symm⟩)
 have a6:∀l∈b.Nm,∀x∈l,x∈b.Nm.flatten:=fun l o x I=>List.mem_flatten.2 ⟨l,o,I⟩;refine⟨⟨g1,g2,fun l o x I=>(a1 x (a6 l o x I)).1⟩,⟨?_,?_,?_,?_,?_,?_⟩,⟨?_,?_,?_⟩,R,fun l o x I=>(a1 x (a6 l o x I)).2.2.2⟩
 ·show ax (qZ c.main i)=true
  exact(ye L (by unfold aS;omega)).2 (.inr (by omega))
 ·intro a ha;obtain⟨k,J,rfl⟩:=dt.1 ha;have:=dW.1 J;rw[L.num _ _ (.inr (.inr (.inr rfl))) (by unfold aS;omega)];exact be (by omega)
 ·simp only[aV,aZ,List.length_range];omega
 ·simpa [aV] using g3
 ·simpa [aV] using g4
 ·intro k J;obtain⟨j,l,o,hj,rfl⟩:=a8 k J;refine⟨?_,fun x I=>?_⟩
  ·show ax (aG 98 j)=true
   rw[L.num _ _ (.inr (.inl rfl)) (by unfold aS;omega)];exact be (by omega)
  obtain⟨y,hy,rfl⟩:=dt.1 I;exact(a1 y (a6 l o y hy)).2.1
 ·rw[js,hV,List.map_map]
  exact ki (g:=aG 118) (by omega) sZ
 ·rw[uG]
  exact ki (g:=aG 98) (by omega) vx
 intro k J;obtain⟨j,l,o,hj,rfl⟩:=a8 k J;refine⟨by rw[sH];exact g5 l o,fun x I=>?_⟩;obtain⟨y,hy,rfl⟩:=dt.1 I;exact(a1 y (a6 l o y hy)).2.2.1
theorem Gf (i:Nat)(b:av):fe (aV p c.main i b)=nA b:=by unfold fe nA;show((b.Nm.mapIdx (du p c.main)).map fun k=>k.code.length).sum=_;rw[ke (h':=fun l=>l.length) fun _ _=>by simp[du]];exact List.length_flatten.symm
theorem ze:((cg p c).Nl.map fe).sum=(c.Nl.map nA).sum:=by show((c.Nl.mapIdx (aV p c.main)).map fe).sum=_;rw[ke (h':=nA) fun i b=>Gf i b]
theorem BZ {l:List Nat}{x:Nat}(h:x∈l):x≤l.sum:=by
 induction l with
 |nil=>simp at h
 |cons y l j=>
  rw[List.sum_cons];rcases fV.1 h with rfl|h;·omega
  have:=j h;omega
theorem vt (L:jT)(hN:il c):eN p c↔eT p c:=by
 have a6:∀i b,c.Nl[i]? =some b→aV p c.main i b∈(cg p c).Nl:=by intro i b j;refine fB.2 ⟨i,?_⟩;show(c.Nl.mapIdx (aV p c.main))[i]? =_;rw[jz,j];rfl
 have I:∀f∈(cg p c).Nl,∃i b,c.Nl[i]? =some b∧f=aV p c.main i b:=by(
 intro f R;obtain⟨i,hi⟩:=fB.1 R;have o:(c.Nl.mapIdx (aV p c.main))[i]? =some f:=hi;rw[jz] at o;cases j:c.Nl[i]? with
 |none=>rw[j] at o;cases o
 |some b=>rw[j] at o;exact⟨i,b,j,(mB o).symm⟩)
 have c0:∀i a,c.Nk[i]? =some a→sn p i a∈(cg p c).Nk:=by intro i a ha;refine fB.2 ⟨i,?_⟩;show(c.Nk.mapIdx (sn p))[i]? =_;rw[jz,ha];rfl
 have a7:∀f∈(cg p c).Nk,∃i a,c.Nk[i]? =some a∧f=sn p i a:=by(
 intro f R;obtain⟨i,hi⟩:=fB.1 R;have o:(c.Nk.mapIdx (sn p))[i]? =some f:=hi;rw[jz] at o;cases j:c.Nk[i]? with
 |none=>rw[j] at o;cases o
 |some b=>rw[j] at o;exact⟨i,b,j,(mB o).symm⟩)
 have b1:((iu p (cg p c)).Nl.map fun f=>(f.params,f.vars,f.Nm.map fun l=>l.map gI))=(c.Nl.map fun f=>(f.params,f.vars,f.Nm.map fun l=>l.map gI))↔
  ∀i b,c.Nl[i]? =some b→(((gy p (cg p c) (aV p c.main i b)).params,(gy p (cg p c) (aV p c.main i b)).vars,(gy p (cg p c) (aV p c.main i b)).Nm.map fun l=>l.map gI)=(b.params,b.vars,b.Nm.map fun l=>l.map gI)):=by
  show((((c.Nl.mapIdx (aV p c.main)).map (gy p (cg p c))).map fun f=>(f.params,f.vars,f.Nm.map fun l=>l.map gI))=_)↔_;constructor;·intro h i b j;have:=congrArg (fun l=>l[i]?) h;simp only[cy,jz,j,Option.map_some] at this;exact mB this
  intro h;apply List.ext_getElem?;intro i;simp only[cy,jz];cases j:c.Nl[i]? with
  |none=>rfl
  |some b=>simp only[Option.map_some];exact congrArg some (h i b j)
 have b3:∀i b,0≤b.params→(gy p (cg p c) (aV p c.main i b)).params=b.params:=by intro i b h0;simp only[gy,aV,aZ,List.length_range];omega
 constructor;·(
 rintro⟨hp,Y,a1,⟨c1,b4⟩,⟨o1,o2,o3,o4,o5⟩,⟨r1,r2,r3,r4,r5,r6⟩,s1,s2,s3⟩;rw[ze] at o5;have C:∀b∈c.Nl,0≤b.params∧b.params≤6:=fun b j=>⟨(b4 b j).1,(b4 b j).2.1⟩;have b5:∃i:Nat,(i:Int)=c.main∧i<c.Nl.length:=by(
 rw[mL] at r4;obtain⟨i,hi,e⟩:=dt.1 r4;refine⟨i,?_,dW.1 hi⟩;unfold qZ at e;by_cases h:(i:Int)=c.main;·exact h
 rw[ah h] at e;exact absurd e (kj (.inr (.inr (.inl rfl))) _))
 obtain⟨m,hm,a8⟩:=b5;refine⟨hp,a1,Y,by omega,by omega,?_,fun a ha=>?_,fun b j=>?_,o5⟩
 ·have j:=lG a8;have e:c.main.toNat=m:=by omega
  rw[iL,e,j,Option.getD_some];have:=r5 _ (a6 m _ j) (am hm);have h0:=C _ (jy a8);have hl:=congrArg List.length this;simp only[aV,aZ,List.length_range,List.length_nil] at hl;omega
 ·obtain⟨i,hi⟩:=fB.1 ha
  have J:=o3 _ (c0 i a hi);have h2:=c1 a ha;exact⟨J.2.2.1,J.2.2.2,h2⟩
 obtain⟨i,hi⟩:=fB.1 j;have c2:=b1.1 s3 i b hi;injection c2 with e1 e2;injection e2 with e2 e3;have c3:((V b).length:Int)=b.vars:=by rw[←e2];show _=((aO (aV p c.main i b)).length:Int);rw[js,aZ]
 have b6:b.Nm.flatten.length≤4096:=dA (BZ (dt.2 ⟨b,j,rfl⟩)) o5;exact Iz L hp a1 Y C hi (hN.ops b j) b6 (b4 b j) (o4 _ (a6 i b hi)) (r6 _ (a6 i b hi)) c3 ((vL i b).1 e3))
 rintro⟨hp,a1,Y,m0,m1,m2,hA,hB,b2⟩;have C:∀b∈c.Nl,0≤b.params∧b.params≤6:=fun b j=>⟨(hB b j).1,(hB b j).2.1⟩
 have b0:∀i b,c.Nl[i]? =some b→ly p b∧el (aV p c.main i b)∧lz p (cg p c) (aV p c.main i b)∧((V b).length:Int)=b.vars∧
  ∀l∈b.Nm,∀x∈l,gI (pg p (cg p c) (aV p c.main i b) (iP p c.main x))=gI x:=by
  intro i b hi;have j:b∈c.Nl:=mG hi;have b6:b.Nm.flatten.length≤4096:=dA (BZ (dt.2 ⟨b,j,rfl⟩)) b2;exact Jw L hp a1 Y C hi (hN.ops b j) b6 (hB b j)
 have a8:c.main.toNat<c.Nl.length:=by omega
 have c4:((c.main.toNat:Nat):Int)=c.main:=by omega
 have hI:∀n:Nat,n≤1000→aS (n:Int):=fun n h=>by unfold aS;omega
 refine⟨hp,Y,a1,⟨fun a ha=>(hA a ha).2.2,fun b j=>?_⟩,⟨?_,?_,?_,?_,?_⟩,⟨?_,?_,?_,?_,?_,?_⟩,?_,?_,?_⟩
 ·obtain⟨i,hi⟩:=fB.1 j
  exact(b0 i b hi).1
 ·simpa [cg] using a1
 ·simpa [cg] using Y
 ·intro f R;obtain⟨i,a,hi,rfl⟩:=a7 f R;have J:=hA a (mG hi);have b7:=(lS.1 hi).1;refine⟨?_,(rI hp J.2.2.1 J.2.2.2).2,J.1,J.2.1⟩;show ax (aG 97 i)=true;rw[L.num _ _ (.inl rfl) (hI i (by omega))];exact be (by omega)
 ·intro f R
  obtain⟨i,b,hi,rfl⟩:=I f R;exact(b0 i b hi).2.1
 ·rw[ze];exact b2
 ·rw[uE];exact ki (g:=aG 97) (by omega) vw
 ·intro f R;obtain⟨i,a,hi,rfl⟩:=a7 f R;have J:=hA a (mG hi);show p.Ng.getD a.2.toNat dQ∈p.Ng;have b7:a.2.toNat<p.Ng.length:=by omega
  rw[iL,lG b7,Option.getD_some];exact jy b7
 ·rw[mL];exact ki (g:=qZ c.main) (by omega) fun _ _ J h2 h=>wF J h2 h
 ·rw[mL]
  exact dt.2 ⟨c.main.toNat,dW.2 a8,am c4⟩
 ·intro f R b8;obtain⟨i,b,hi,rfl⟩:=I f R;have b9:qZ c.main i=eO:=b8;have c5:(i:Int)=c.main:=by
   unfold qZ at b9;by_cases h:(i:Int)=c.main;·exact h
   rw[ah h] at b9;exact absurd b9 (kj (.inr (.inr (.inl rfl))) _)
  have e:c.main.toNat=i:=by omega
  rw[iL,e,hi,Option.getD_some] at m2;simp[aV,m2]
 ·intro f R
  obtain⟨i,b,hi,rfl⟩:=I f R;exact(b0 i b hi).2.2.1
 ·show aH (ee (cg p c)) eO=c.main
  have:eO=qZ c.main c.main:=(am rfl).symm;rw[mL,this,lq (g:=qZ c.main) (by omega) (fun _ _ J h2 h=>wF J h2 h) hN.main];exact gC.2 (.inl ⟨m0,m1⟩)
 ·show((c.Nk.mapIdx (sn p)).map fun a=>(a.size,cH p a.level))=c.Nk;rw[ke (h':=fun a=>(a.1,cH p (p.Ng.getD a.2.toNat dQ))) fun _ _=>rfl];conv=>rhs;rw[←List.map_id c.Nk]
  refine List.map_congr_left fun a ha=>?_;have J:=hA a ha;rw[(rI hp J.2.2.1 J.2.2.2).1];rfl
 refine b1.2 fun i b hi=>?_;have j:=mG hi;obtain⟨_,_,_,h4,h5⟩:=b0 i b hi;rw[b3 i b (C b j).1,(vL i b).2 h5];have hv:(gy p (cg p c) (aV p c.main i b)).vars=b.vars:=by rw[←h4];show((aO (aV p c.main i b)).length:Int)=_;rw[js,aZ]
 rw[hv]
end
end
end Go.Proofs.YtccbbkopmlnkpaaGreatDoor
