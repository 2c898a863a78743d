/- Part 6 of the proof (its last part says what is proved). No condition. -/
import Derived.Test.YtgdlhckhpolnnaaGreatDoorK4
namespace Go.Proofs.YtgdlhckhpolnnaaGreatDoor
set_option maxRecDepth 100000
set_option maxHeartbeats 8000000
open Go.RowKit Go.Proofs.Tryz
section
structure rK (c:aE):Prop where
 main:aV c.main
 ops:∀b∈c.Nf,∀x∈b.Ng.flatten,iM x
theorem oV {α β γ:Type}{g:Nat→α→β}{h:β→γ}{h':Nat→γ}(e:∀i a,h (g i a)=h' i)(l:List α):(l.mapIdx g).map h=(List.range l.length).map h':=by
 apply List.ext_getElem?;intro i;rw[cL,jA,cL];by_cases hi:i<l.length
 ·rw[lG hi,ln hi]
  simp only[Option.map_some,e]
 rw[jz (by omega),jz (by simp;omega)];rfl
theorem uE (p:aH)(c:aE):dz (cP p c)=(List.range c.Nd.length).map fun(i:Nat)=>aL 97 i:=oV (g:=sa p) (h:=fun a=>a.name) (h':=fun(i:Nat)=>aL 97 i) (fun _ _=>rfl) c.Nd
theorem ni (p:aH)(c:aE):fh (cP p c)=(List.range c.Nf.length).map fun(i:Nat)=>qY c.main i:=oV (g:=bU p c.main) (h:=fun a=>a.name) (h':=fun(i:Nat)=>qY c.main i) (fun _ _=>rfl) c.Nf
theorem uH (p:aH)(m:Int)(i:Nat)(b:aw):cn (bU p m i b)=(List.range b.Ng.length).map fun(i:Nat)=>aL 98 i:=oV (g:=eh p m) (h:=fun a=>a.name) (h':=fun(i:Nat)=>aL 98 i) (fun _ _=>rfl) b.Ng
def yd (b:aw):List Int:=(b.Ng.flatten.filter fun x=>decide (0≤x.dst)).map fun x=>x.dst
def V (b:aw):List Int:=((List.range b.params.toNat).map fun(k:Nat)=>(k:Int))++yd b
theorem yF {α β γ:Type}{g:Nat→α→β}{h:β→List γ}{h':α→List γ}(e:∀i a,h (g i a)=h' a)(l:List α):(l.mapIdx g).flatMap h=l.flatMap h':=by
 rw[List.flatMap_def,List.flatMap_def];congr 1;apply List.ext_getElem?;intro i;rw[cL,jA,cL];cases l[i]? with
 |none=>rfl
 |some a=>simp only[Option.map_some,e]
theorem kW {α β γ:Type}{g:Nat→α→β}{h:β→γ}{h':α→γ}(e:∀i a,h (g i a)=h' a)(l:List α):(l.mapIdx g).map h=l.map h':=by
 apply List.ext_getElem?;intro i;rw[cL,jA,cL];cases l[i]? with
 |none=>rfl
 |some a=>simp only[Option.map_some,e]
theorem oQ (p:aH)(m:Int):∀l:List bz,(l.map fun x=>(jC p m x).dst).filter (fun s=>decide (s≠gR))=((l.filter fun x=>decide (0≤x.dst)).map fun x=>x.dst).map (aL 118)
 | []=>rfl
 |x::l=>by(
 rw[List.map_cons,List.filter_cons,List.filter_cons];by_cases h:0≤x.dst
 ·have e:(jC p m x).dst=aL 118 x.dst:=ap h
  rw[e,ap (bL (nS _ _)),ap (bL h),oQ p m l];rfl
 have e:(jC p m x).dst=gR:=ae h;rw[e,ae (by simp),ae (by simp;omega),oQ p m l])
theorem CO (p:aH)(m:Int)(i:Nat)(b:aw):sx (bU p m i b)=(yd b).map (aL 118):=by
 unfold sx;have:((bU p m i b).Ng.flatMap fun b=>b.code.map fun x=>x.dst)=b.Ng.flatten.map fun x=>(jC p m x).dst:=by show(b.Ng.mapIdx (eh p m)).flatMap (fun b=>b.code.map fun x=>x.dst)=_;rw[yF (h':=fun l=>l.map fun x=>(jC p m x).dst) fun _ _=>by simp[eh]];rw[List.flatMap_def,List.map_flatten]
 rw[this];exact oQ p m _
theorem ke (p:aH)(m:Int)(i:Nat)(b:aw):bh (bU p m i b)=(V b).map (aL 118):=by unfold bh V;rw[CO,ic,List.map_map];rfl
theorem uX {α:Type}{q:α→Bool}{l:List α}{k:Nat}{x:α}(h:l[k]? =some x)(j:q x=true):(l.filter q)[((l.take k).filter q).length]? =some x:=by
 obtain⟨o,rfl⟩:=lS.1 h;have e:l=l.take k++l[k]::l.drop (k+1):=by rw[←List.drop_eq_getElem_cons o,List.take_append_drop]
 have:l.filter q=(l.take k).filter q++l[k]::(l.drop (k+1)).filter q:=by
  conv=>lhs;rw[e]
  rw[mE,List.filter_cons,ap j]
 rw[this,kH (cf _),Nat.sub_self];rfl
def cz (x:bz):Bool:=match cw x.kind with|some (_,d,_,_)=>d|none=>false
theorem co (l:List bz):cj l=(l.filter cz).length:=rfl
theorem Fv {l:List bz}(h:∀x∈l,cz x=decide (0≤x.dst)):cj l=(l.filter fun x=>decide (0≤x.dst)).length:=by rw[co,List.filter_congr h]
theorem Jy {p:aH}{c:aE}{b:aw}{N:Nat}{x:bz}(h:zI p c b N x):cz x=decide (0≤x.dst):=by
 obtain⟨n,dst,ref,Ni,j,o,C,_⟩:=h;unfold cz;rw[j];cases dst with
 |true=>exact(bL (o rfl).1).symm
 |false=>have:=C rfl;exact(cI (by omega)).symm
theorem Mu {p:aH}{c:aE}{b:aw}{N:Nat}{x:bz}{next:Int}(o:b.vars=N)(h:zI p c b N x)(C:0≤x.dst→x.dst=next):aT p c b next x:=by
 obtain⟨n,dst,ref,Ni,j,I,J,r⟩:=h;refine⟨n,dst,ref,Ni,j,?_,by rw[o];exact r⟩;cases dst with
 |true=>rw[ap rfl];exact C (I rfl).1
 |false=>rw[ae oG];exact J rfl
theorem MB {p:aH}{c:aE}{b:aw}{N:Nat}{x:bz}{next:Int}(C:b.vars=N)(h:aT p c b next x)(J:0≤next)(I:cz x=true→next<N):zI p c b N x:=by
 obtain⟨n,dst,ref,Ni,j,o,r⟩:=h;refine⟨n,dst,ref,Ni,j,fun h=>?_,fun h=>?_,by rw[C] at r;exact r⟩
 ·rw[ap h] at o
  have:cz x=true:=by unfold cz;rw[j];exact h
  have:=I this;omega
 rw[h,ae oG] at o;exact o
theorem yV {l:List Int}(h:∀(k:Nat) x,l[k]? =some x→x=k):l=(List.range l.length).map fun(k:Nat)=>(k:Int):=by
 apply List.ext_getElem?;intro k;rw[cL];by_cases j:k<l.length;·rw[ln j,lG j,h k _ (lG j)];rfl
 rw[jz (by omega),jz (by simp;omega)];rfl
theorem th:∀i j,aV i→aV j→aL 118 i=aL 118 j→i=j:=fun _ _ o C h=>(pQ o C h).2
theorem vE:∀i j,aV i→aV j→aL 97 i=aL 97 j→i=j:=fun _ _ o C h=>(pQ o C h).2
theorem vG:∀i j,aV i→aV j→aL 98 i=aL 98 j→i=j:=fun _ _ o C h=>(pQ o C h).2
section
variable {p:aH} {c:aE}
theorem xU (I:c.Nd.length≤16)(J:c.Nf.length≤64)(o:∀b∈c.Nf,0≤b.params){i:Nat}{b:aw}(R:b.Ng.length≤64){N:Nat}(Y:N≤1000000)
 (hV:V b=(List.range N).map fun(k:Nat)=>(k:Int)):If p c b (cP p c) (bU p c.main i b) N:=by
 refine⟨fun r hr=>?_,fun r hr=>?_,fun r hr=>?_,fun r hr=>?_,fun j C=>?_⟩;·rw[uE];exact lT (by omega) vE hr
 ·rw[ni];exact lT (by omega) (fun _ _ h1 h2 h=>wO h1 h2 h) hr
 ·rw[uH];exact lT (by omega) vG hr
 ·rw[ke,hV,List.map_map];exact lT Y th hr
 refine⟨bU p c.main j c.Nf[j],?_,?_⟩
 ·show(c.Nf.mapIdx (bU p c.main))[j]? =_
  rw[jA,lG C];rfl
 rw[iG,lG C,Option.getD_some];have:=o _ (eL C);simp only[bU,ce,List.length_range];omega
theorem xQ (i:Nat)(b:aw):(il p (cP p c) (bU p c.main i b)).Ng=b.Ng.map fun l=>l.map fun x=>pg p (cP p c) (bU p c.main i b) (jC p c.main x):=by show(b.Ng.mapIdx (eh p c.main)).map (fun k=>k.code.map (pg p (cP p c) (bU p c.main i b)))=_;exact kW (fun _ _=>by simp[eh]) _
theorem vR (i:Nat)(b:aw):((il p (cP p c) (bU p c.main i b)).Ng.map fun l=>l.map iE)=(b.Ng.map fun l=>l.map iE)↔∀l∈b.Ng,∀x∈l,iE (pg p (cP p c) (bU p c.main i b) (jC p c.main x))=iE x:=by
 rw[xQ,List.map_map,List.map_inj_left];refine⟨fun h l hl x j=>?_,fun h l hl=>?_⟩
 ·have:=h l hl
  simp only[Function.comp,List.map_map] at this;exact List.map_inj_left.1 this x j
 simp only[Function.comp,List.map_map];exact List.map_inj_left.2 fun x j=>h l hl x j
theorem sO (l:List bz)(k:Nat)(m:Int):((eh p m k l).code.map fun x=>x.kind)=l.map fun x=>x.kind:=by simp[eh,jC]
theorem Iw (L:kP)(hp:dD p)(b5:c.Nd.length≤16)(b6:c.Nf.length≤64)(I:∀b∈c.Nf,0≤b.params∧b.params≤6){i:Nat}{b:aw}(hb:c.Nf[i]? =some b)(hn:∀x∈b.Ng.flatten,iM x)(hlen:b.Ng.flatten.length≤4096)
 (b0:lX p b) (b7:fT (bU p c.main i b)) (b1:pj p (cP p c) (bU p c.main i b)) (R:((V b).length:Int)=b.vars)
 (hs:∀l∈b.Ng,∀x∈l,iE (pg p (cP p c) (bU p c.main i b) (jC p c.main x))=iE x):qi p c b:=by
 have a7:b∈c.Nf:=mG hb;obtain⟨f1,f2,f3,f4,f5,f6⟩:=b7;obtain⟨r1,r2,r3⟩:=b1;have b8:(bU p c.main i b).Ng.length=b.Ng.length:=by simp[bU]
 rw[b8] at f4 f5;rw[ke] at r1;have c8:∀d∈V b,aV d:=by(
 intro d j;rcases eD.1 j with j|j
 ·obtain⟨k,J,rfl⟩:=dr.1 j
  have:=fg.1 J;have:=I b a7;unfold aV;omega
 obtain⟨x,o,rfl⟩:=dr.1 j;exact(hn x (List.mem_filter.1 o).1).dst)
 have b2:∀(k:Nat) d,(V b)[k]? =some d→d=k:=by(
 intro k d j;by_cases J:k<b.params.toNat
 ·unfold V at j
  rw[ma (by simpa using J),cL,ln J] at j;exact(kJ j).symm
 have b9:d∈yd b:=by unfold V at j;rw[kH (by simpa using J)] at j;exact mG j
 obtain⟨x,o,rfl⟩:=dr.1 b9;obtain⟨c0,c1⟩:=List.mem_filter.1 o;obtain⟨l,hl,a8⟩:=List.mem_flatten.1 c0;have c4:=hs l hl x a8;have c5:0≤x.dst:=of_decide_eq_true c1;have Y:(if(jC p c.main x).dst=gR then(-1:Int) else aO (bh (bU p c.main i b)) (jC p c.main x).dst)=x.dst:=congrArg bz.dst c4;have e:(jC p c.main x).dst=aL 118 x.dst:=ap c5;rw[e,ae (nS _ _),ke,vL (k:=k) (by rw[cL,j];rfl) r1] at Y;exact Y.symm)
 have hV:=yV b2;have c6:(V b).length≤1000000:=by have Y:=I b a7;have h2:(b.Ng.flatten.filter fun x=>decide (0≤x.dst)).length≤b.Ng.flatten.length:=List.length_filter_le _ _;unfold V yd;rw[iQ,ce,ce,List.length_range];omega
 have C:If p c b (cP p c) (bU p c.main i b) (V b).length:=xU b5 b6 (fun b hb=>(I b hb).1) (by omega) c6 hV;have a1:∀l∈b.Ng,∃k,eh p c.main k l∈(bU p c.main i b).Ng:=by intro l hl;obtain⟨k,J⟩:=cY.1 hl;refine⟨k,cY.2 ⟨k,?_⟩⟩;show(b.Ng.mapIdx (eh p c.main))[k]? =_;rw[jA,J];rfl
 have c7:∀l∈b.Ng,∀x∈l,zI p c b (V b).length x:=by intro l hl x o;obtain⟨k,J⟩:=a1 l hl;have b3:jC p c.main x∈(eh p c.main k l).code:=dr.2 ⟨x,o,rfl⟩;exact Gs L hp C (hn x (List.mem_flatten.2 ⟨l,hl,o⟩)) ⟨b0.2.2 l hl x o,(f6 _ J).2 _ b3,(r3 _ J).2 _ b3,hs l hl x o⟩
 have b4:∀x∈b.Ng.flatten,zI p c b (V b).length x:=by intro x o;obtain⟨l,hl,a8⟩:=List.mem_flatten.1 o;exact c7 l hl x a8
 have h0:=I b a7;have a6:∀k,cj (b.Ng.flatten.take k)=((b.Ng.flatten.take k).filter fun x=>decide (0≤x.dst)).length:=fun k=>Fv fun x o=>Jy (b4 x (List.mem_of_mem_take o));refine⟨h0.1,h0.2,f4,f5,fun l hl=>?_,fun k x o=>?_,?_⟩
 ·obtain⟨k,J⟩:=a1 l hl
  have:=(r3 _ J).1;rwa [sO] at this
 ·refine Mu R.symm (b4 x (mG o)) fun j=>?_;have Y:=uX (q:=fun x:bz=>decide (0≤x.dst)) o (bL j);have h2:(V b)[b.params.toNat+((b.Ng.flatten.take k).filter fun x=>decide (0≤x.dst)).length]? =some x.dst:=by unfold V yd;rw[kH (by simp),ce,List.length_range,Nat.add_sub_cancel_left,cL,Y];rfl
  have:=b2 _ _ h2;rw[this,a6 k];omega
 have Y:=a6 b.Ng.flatten.length;rw[dZ] at Y;rw[Y,←R];unfold V yd;rw[iQ,ce,ce,List.length_range];omega
theorem uT {R:Int}(h0:0≤R):∀(l:List bz),(∀(k:Nat) x,l[k]? =some x→x.dst=if cz x=true then R+cj (l.take k) else-1)→
 ((l.filter fun x=>decide (0≤x.dst)).map fun x=>x.dst)=(List.range (cj l)).map fun(j:Nat)=>R+(j:Int):=by
 intro l;induction hl:l.length generalizing l with
 |zero=>intro _;rw[List.length_eq_zero_iff.1 hl];rfl
 |succ n ih=>
  intro h;have o:l≠[]:=by rintro rfl;simp at hl
  obtain⟨C,x,rfl⟩:∃C x,l=C++[x]:=⟨l.dropLast,l.getLast o,(List.dropLast_concat_getLast o).symm⟩;have Y:C.length=n:=by simpa using hl
  have a1:=ih C Y fun k y hy=>by have hk:=(lS.1 hy).1;have:=h k y (by rw[ma hk];exact hy);rwa [List.take_append_of_le_length (by omega)] at this
  have I:=h C.length x (by rw[kH (cf _),Nat.sub_self];rfl);rw[List.take_left] at I;rw[mE,ic,a1,co,co,mE,iQ];by_cases J:cz x=true
  ·rw[ap J] at I;have hd:0≤x.dst:=by omega
   rw[List.filter_cons,ap (bL hd),List.filter_cons,ap J];simp only[List.filter_nil,List.map_cons,List.map_nil,kI,List.length_nil,cN];rw[List.range_succ,ic,I];rfl
  rw[ae J] at I;rw[List.filter_cons,ae (by simp;omega),List.filter_cons,ae J];simp
theorem Jz (L:kP)(hp:dD p)(b3:c.Nd.length≤16)(b4:c.Nf.length≤64)(a7:∀b∈c.Nf,0≤b.params∧b.params≤6){i:Nat}{b:aw}(hb:c.Nf[i]? =some b)(hn:∀x∈b.Ng.flatten,iM x)(hlen:b.Ng.flatten.length≤4096)
 (h:qi p c b):lX p b∧fT (bU p c.main i b)∧pj p (cP p c) (bU p c.main i b)∧((V b).length:Int)=b.vars∧
 ∀l∈b.Ng,∀x∈l,iE (pg p (cP p c) (bU p c.main i b) (jC p c.main x))=iE x:=by
 have b8:b∈c.Nf:=mG hb;have hi:i<c.Nf.length:=(lS.1 hb).1;obtain⟨g1,g2,g3,g4,g5,g6,g7⟩:=h;have b0:∀(k:Nat) x,b.Ng.flatten[k]? =some x→x.dst=if cz x=true then b.params+cj (b.Ng.flatten.take k) else-1:=by
  intro k x o;obtain⟨n,dst,ref,Ni,b5,h1,_⟩:=g6 k x o;have:cz x=dst:=by unfold cz;rw[b5]
  rw[this];exact h1
 have b1:=uT g1 _ b0;have b2:(V b).length=b.params.toNat+cj b.Ng.flatten:=by unfold V yd;rw[b1,iQ,ce,ce,List.length_range,List.length_range]
 have b6:∀(k:Nat) d,(V b)[k]? =some d→d=k:=by(
 intro k d Y;unfold V yd at Y;rw[b1] at Y;by_cases I:k<b.params.toNat
 ·rw[ma (by simpa using I),cL,ln I] at Y
  exact(kJ Y).symm
 rw[kH (by simpa using I),cL,ce,List.length_range] at Y;by_cases b7:k-b.params.toNat<cj b.Ng.flatten
 ·rw[ln b7] at Y
  have:d=b.params+((k-b.params.toNat:Nat):Int):=(kJ Y).symm;omega
 rw[jz (by simp;omega)] at Y;cases Y)
 have hV:=yV b6;have b9:cj b.Ng.flatten≤b.Ng.flatten.length:=List.length_filter_le _ _;have C:If p c b (cP p c) (bU p c.main i b) (V b).length:=xU b3 b4 (fun b hb=>(a7 b hb).1) (by omega) (by omega) hV;have J:((V b).length:Int)=b.vars:=by rw[b2,g7];omega
 have a1:∀x∈b.Ng.flatten,EO p c (cP p c) (bU p c.main i b) x:=by intro x o;obtain⟨k,I⟩:=cY.1 o;refine Gp L hp C (fun b hb=>(a7 b hb).2) (hn x o) (MB J.symm (g6 k x I) (by omega) fun hf=>?_);have h1:=uX (q:=cz) I hf;have h2:=(lS.1 h1).1;rw[b2,co,co];omega
 have a8:∀k∈(bU p c.main i b).Ng,∃j,∃l∈b.Ng,j<b.Ng.length∧k=eh p c.main j l:=by(
 intro k I;obtain⟨j,hj⟩:=cY.1 I;have R:(b.Ng.mapIdx (eh p c.main))[j]? =some k:=hj;rw[jA] at R;cases hl:b.Ng[j]? with
 |none=>rw[hl] at R;cases R
 |some l=>rw[hl] at R;exact⟨j,l,mG hl,(lS.1 hl).1,(kJ R).symm⟩)
 have a6:∀l∈b.Ng,∀x∈l,x∈b.Ng.flatten:=fun l hl x o=>List.mem_flatten.2 ⟨l,hl,o⟩;refine⟨⟨g1,g2,fun l hl x o=>(a1 x (a6 l hl x o)).1⟩,⟨?_,?_,?_,?_,?_,?_⟩,⟨?_,?_,?_⟩,J,fun l hl x o=>(a1 x (a6 l hl x o)).2.2.2⟩
 ·show aB (qY c.main i)=true
  exact(ym L (by unfold aV;omega)).2 (.inr (by omega))
 ·intro a ha;obtain⟨k,I,rfl⟩:=dr.1 ha;have:=fg.1 I;rw[L.num _ _ (.inr (.inr (.inr rfl))) (by unfold aV;omega)];exact bL (by omega)
 ·simp only[bU,ce,List.length_range];omega
 ·simpa [bU] using g3
 ·simpa [bU] using g4
 ·intro k I;obtain⟨j,l,hl,hj,rfl⟩:=a8 k I;refine⟨?_,fun x o=>?_⟩
  ·show aB (aL 98 j)=true
   rw[L.num _ _ (.inr (.inl rfl)) (by unfold aV;omega)];exact bL (by omega)
  obtain⟨y,hy,rfl⟩:=dr.1 o;exact(a1 y (a6 l hl y hy)).2.1
 ·rw[ke,hV,List.map_map]
  exact kY (g:=aL 118) (by omega) th
 ·rw[uH]
  exact kY (g:=aL 98) (by omega) vG
 intro k I;obtain⟨j,l,hl,hj,rfl⟩:=a8 k I;refine⟨by rw[sO];exact g5 l hl,fun x o=>?_⟩;obtain⟨y,hy,rfl⟩:=dr.1 o;exact(a1 y (a6 l hl y hy)).2.2.1
theorem Gd (i:Nat)(b:aw):gl (bU p c.main i b)=ft b:=by unfold gl ft;show((b.Ng.mapIdx (eh p c.main)).map fun k=>k.code.length).sum=_;rw[kW (h':=fun l=>l.length) fun _ _=>by simp[eh]];exact List.length_flatten.symm
theorem zv:((cP p c).Nf.map gl).sum=(c.Nf.map ft).sum:=by show((c.Nf.mapIdx (bU p c.main)).map gl).sum=_;rw[kW (h':=ft) fun i b=>Gd i b]
theorem Cg {l:List Nat}{x:Nat}(h:x∈l):x≤l.sum:=by
 induction l with
 |nil=>simp at h
 |cons y l j=>
  rw[List.sum_cons];rcases fX.1 h with rfl|h;·omega
  have:=j h;omega
theorem Dr (L:kP)(hN:rK c):eM p c↔bJ p c:=by
 have a6:∀i b,c.Nf[i]? =some b→bU p c.main i b∈(cP p c).Nf:=by intro i b j;refine cY.2 ⟨i,?_⟩;show(c.Nf.mapIdx (bU p c.main))[i]? =_;rw[jA,j];rfl
 have I:∀f∈(cP p c).Nf,∃i b,c.Nf[i]? =some b∧f=bU p c.main i b:=by(
 intro f R;obtain⟨i,hi⟩:=cY.1 R;have o:(c.Nf.mapIdx (bU p c.main))[i]? =some f:=hi;rw[jA] at o;cases j:c.Nf[i]? with
 |none=>rw[j] at o;cases o
 |some b=>rw[j] at o;exact⟨i,b,j,(kJ o).symm⟩)
 have c0:∀i a,c.Nd[i]? =some a→sa p i a∈(cP p c).Nd:=by intro i a ha;refine cY.2 ⟨i,?_⟩;show(c.Nd.mapIdx (sa p))[i]? =_;rw[jA,ha];rfl
 have a7:∀f∈(cP p c).Nd,∃i a,c.Nd[i]? =some a∧f=sa p i a:=by(
 intro f R;obtain⟨i,hi⟩:=cY.1 R;have o:(c.Nd.mapIdx (sa p))[i]? =some f:=hi;rw[jA] at o;cases j:c.Nd[i]? with
 |none=>rw[j] at o;cases o
 |some b=>rw[j] at o;exact⟨i,b,j,(kJ o).symm⟩)
 have b1:((qV p (cP p c)).Nf.map fun f=>(f.params,f.vars,f.Ng.map fun l=>l.map iE))=(c.Nf.map fun f=>(f.params,f.vars,f.Ng.map fun l=>l.map iE))↔
  ∀i b,c.Nf[i]? =some b→(((il p (cP p c) (bU p c.main i b)).params,(il p (cP p c) (bU p c.main i b)).vars,(il p (cP p c) (bU p c.main i b)).Ng.map fun l=>l.map iE)=(b.params,b.vars,b.Ng.map fun l=>l.map iE)):=by
  show((((c.Nf.mapIdx (bU p c.main)).map (il p (cP p c))).map fun f=>(f.params,f.vars,f.Ng.map fun l=>l.map iE))=_)↔_;constructor;·intro h i b j;have:=congrArg (fun l=>l[i]?) h;simp only[cL,jA,j,Option.map_some] at this;exact kJ this
  intro h;apply List.ext_getElem?;intro i;simp only[cL,jA];cases j:c.Nf[i]? with
  |none=>rfl
  |some b=>simp only[Option.map_some];exact congrArg some (h i b j)
 have b3:∀i b,0≤b.params→(il p (cP p c) (bU p c.main i b)).params=b.params:=by intro i b h0;simp only[il,bU,ce,List.length_range];omega
 constructor;·(
 rintro⟨hp,Y,a1,⟨c1,b4⟩,⟨o1,o2,o3,o4,o5⟩,⟨r1,r2,r3,r4,r5,r6⟩,s1,s2,s3⟩;rw[zv] at o5;have C:∀b∈c.Nf,0≤b.params∧b.params≤6:=fun b j=>⟨(b4 b j).1,(b4 b j).2.1⟩;have b5:∃i:Nat,(i:Int)=c.main∧i<c.Nf.length:=by(
 rw[ni] at r4;obtain⟨i,hi,e⟩:=dr.1 r4;refine⟨i,?_,fg.1 hi⟩;unfold qY at e;by_cases h:(i:Int)=c.main;·exact h
 rw[ae h] at e;exact absurd e (kZ (.inr (.inr (.inl rfl))) _))
 obtain⟨m,hm,a8⟩:=b5;refine⟨hp,a1,Y,by omega,by omega,?_,fun a ha=>?_,fun b j=>?_,o5⟩
 ·have j:=lG a8;have e:c.main.toNat=m:=by omega
  rw[iG,e,j,Option.getD_some];have:=r5 _ (a6 m _ j) (ap hm);have h0:=C _ (eL a8);have hl:=congrArg List.length this;simp only[bU,ce,List.length_range,List.length_nil] at hl;omega
 ·obtain⟨i,hi⟩:=cY.1 ha
  have J:=o3 _ (c0 i a hi);have h2:=c1 a ha;exact⟨J.2.2.1,J.2.2.2,h2⟩
 obtain⟨i,hi⟩:=cY.1 j;have c4:=b1.1 s3 i b hi;injection c4 with e1 e2;injection e2 with e2 e3;have c5:((V b).length:Int)=b.vars:=by rw[←e2];show _=((bh (bU p c.main i b)).length:Int);rw[ke,ce]
 have b6:b.Ng.flatten.length≤4096:=fR (Cg (dr.2 ⟨b,j,rfl⟩)) o5;exact Iw L hp a1 Y C hi (hN.ops b j) b6 (b4 b j) (o4 _ (a6 i b hi)) (r6 _ (a6 i b hi)) c5 ((vR i b).1 e3))
 rintro⟨hp,a1,Y,m0,m1,m2,hA,hB,b2⟩;have C:∀b∈c.Nf,0≤b.params∧b.params≤6:=fun b j=>⟨(hB b j).1,(hB b j).2.1⟩
 have b0:∀i b,c.Nf[i]? =some b→lX p b∧fT (bU p c.main i b)∧pj p (cP p c) (bU p c.main i b)∧((V b).length:Int)=b.vars∧
  ∀l∈b.Ng,∀x∈l,iE (pg p (cP p c) (bU p c.main i b) (jC p c.main x))=iE x:=by
  intro i b hi;have j:b∈c.Nf:=mG hi;have b6:b.Ng.flatten.length≤4096:=fR (Cg (dr.2 ⟨b,j,rfl⟩)) b2;exact Jz L hp a1 Y C hi (hN.ops b j) b6 (hB b j)
 have a8:c.main.toNat<c.Nf.length:=by omega
 have c6:((c.main.toNat:Nat):Int)=c.main:=by omega
 have hI:∀n:Nat,n≤1000→aV (n:Int):=fun n h=>by unfold aV;omega
 refine⟨hp,Y,a1,⟨fun a ha=>(hA a ha).2.2,fun b j=>?_⟩,⟨?_,?_,?_,?_,?_⟩,⟨?_,?_,?_,?_,?_,?_⟩,?_,?_,?_⟩
 ·obtain⟨i,hi⟩:=cY.1 j
  exact(b0 i b hi).1
 ·simpa [cP] using a1
 ·simpa [cP] using Y
 ·intro f R;obtain⟨i,a,hi,rfl⟩:=a7 f R;have J:=hA a (mG hi);have b7:=(lS.1 hi).1;refine⟨?_,(rD hp J.2.2.1 J.2.2.2).2,J.1,J.2.1⟩;show aB (aL 97 i)=true;rw[L.num _ _ (.inl rfl) (hI i (by omega))];exact bL (by omega)
 ·intro f R
  obtain⟨i,b,hi,rfl⟩:=I f R;exact(b0 i b hi).2.1
 ·rw[zv];exact b2
 ·rw[uE];exact kY (g:=aL 97) (by omega) vE
 ·intro f R;obtain⟨i,a,hi,rfl⟩:=a7 f R;have J:=hA a (mG hi);show p.MZ.getD a.2.toNat gR∈p.MZ;have b7:a.2.toNat<p.MZ.length:=by omega
  rw[iG,lG b7,Option.getD_some];exact eL b7
 ·rw[ni];exact kY (g:=qY c.main) (by omega) fun _ _ J h2 h=>wO J h2 h
 ·rw[ni]
  exact dr.2 ⟨c.main.toNat,fg.2 a8,ap c6⟩
 ·intro f R b8;obtain⟨i,b,hi,rfl⟩:=I f R;have b9:qY c.main i=fO:=b8;have c7:(i:Int)=c.main:=by
   unfold qY at b9;by_cases h:(i:Int)=c.main;·exact h
   rw[ae h] at b9;exact absurd b9 (kZ (.inr (.inr (.inl rfl))) _)
  have e:c.main.toNat=i:=by omega
  rw[iG,e,hi,Option.getD_some] at m2;simp[bU,m2]
 ·intro f R
  obtain⟨i,b,hi,rfl⟩:=I f R;exact(b0 i b hi).2.2.1
 ·show aO (fh (cP p c)) fO=c.main
  have:fO=qY c.main c.main:=(ap rfl).symm;rw[ni,this,lT (g:=qY c.main) (by omega) (fun _ _ J h2 h=>wO J h2 h) hN.main];exact ix.2 (.inl ⟨m0,m1⟩)
 ·show((c.Nd.mapIdx (sa p)).map fun a=>(a.size,eZ p a.level))=c.Nd;rw[kW (h':=fun a=>(a.1,eZ p (p.MZ.getD a.2.toNat gR))) fun _ _=>rfl];conv=>rhs;rw[←List.map_id c.Nd]
  refine List.map_congr_left fun a ha=>?_;have J:=hA a ha;rw[(rD hp J.2.2.1 J.2.2.2).1];rfl
 refine b1.2 fun i b hi=>?_;have j:=mG hi;obtain⟨_,_,_,h4,h5⟩:=b0 i b hi;rw[b3 i b (C b j).1,(vR i b).2 h5];have hv:(il p (cP p c) (bU p c.main i b)).vars=b.vars:=by rw[←h4];show((bh (bU p c.main i b)).length:Int)=_;rw[ke,ce]
 rw[hv]
end
end
end Go.Proofs.YtgdlhckhpolnnaaGreatDoor
