/- Part 22 of the proof of CallsTo (its last part says what is proved). No condition. -/
import Derived.Test.YtceloincoomjeaaGreatDoorK20
namespace Go.Proofs.YtceloincoomjeaaGreatDoor
set_option maxRecDepth 100000
set_option maxHeartbeats 8000000
open Go.RowKit Go.Proofs.Tryz
section
open Go.RowKit Go.Shelf
attribute [local go_sem] Oper.semAt_some
theorem GK (n:Nat):aN n (AM fun v=>if v<0 then(-1,-1) else(0,0))=aN n fun _=>0:=ex fun j _=>by unfold AM;split<;>rfl
structure rN (w:World)(np nv:Nat)(B1:Option Addr)(n d1:Nat)(f:Nat→Int×Int)(W:World):Prop where
 kept:aa All w W
 size:w.heap.size+5≤W.heap.size
 body:al W w.heap.size 48 #[.int .i64 np,.int .i64 nv,.slice B1 n d1]
 r1:al W (w.heap.size+1) 99 #[.slice none 0 0]
 r2:al W (w.heap.size+1+1) 4 #[.bool false]
 tab:al W (w.heap.size+1+1+1) 107 (aN (nv*2) (AM f))
 out:al W (w.heap.size+1+1+1+1) 99 #[.slice (some ⟨w.heap.size+1+1+1,0,none⟩) nv nv]
section
variable {w W W':World} {np nv n d1:Nat} {B1:Option Addr} {f g:Nat→Int×Int}
theorem rN.keep (h:rN w np nv B1 n d1 f W)(k:aa (fun b=>b<w.heap.size+5) W W'):rN w np nv B1 n d1 f W':=
 ⟨am (h.kept.all.trans (k.mono fun b (j:b<w.heap.size)=>by omega)),fR h.size k.size,h.body.kept k (by omega),h.r1.kept k (by omega),h.r2.kept k (by omega),h.tab.kept k (by omega),h.out.kept k (by omega)⟩
theorem rN.congr (h:rN w np nv B1 n d1 f W)(e:∀v,v<nv→f v=g v):rN w np nv B1 n d1 g W:=by refine⟨h.kept,h.size,h.body,h.r1,h.r2,?_,h.out⟩;rw[ex (g:=AM f) fun j l=>by unfold AM;rw[e (j/2) (by omega)]];exact h.tab
theorem rN.set (h:rN w np nv B1 n d1 f W){v:Nat}(j:∀u,u≠v→g u=f u){x y:Int}(l:g v=(x,y)):rN w np nv B1 n d1 g ((W.setCell ⟨w.heap.size+1+1+1,v*2,none⟩ (.int .i64 x)).setCell ⟨w.heap.size+1+1+1,v*2+1,none⟩ (.int .i64 y)):=by
 refine⟨(h.kept.setCell (.inr (by simp;omega)) _).setCell (.inr (by simp;omega)) _,by simpa using h.size,?_,?_,?_,?_,?_⟩;·exact(h.body.far (by simp;omega) _).far (by simp;omega) _
 ·exact(h.r1.far (by simp) _).far (by simp) _
 ·exact(h.r2.far (by simp) _).far (by simp) _
 ·rw[←JE (n:=nv) j,l]
  exact(h.tab.set _ _).set _ _
 exact(h.out.far (by simp) _).far (by simp) _
end
def ED (L:List (List bz))(w:World)(np nv:Nat)(B1:Option Addr)(n d1 N sz:Nat)(pre:List (EK L))(W:World):Prop:=
 rN w np nv B1 n d1 (fun v=>iV (pre.map Subtype.val) v) W∧al W N 3 #[.int .i64 (np+og ((pre.map Subtype.val).map fun t=>t.2.2):Nat)]∧sz≤W.heap.size∧w.heap.size+5≤N∧N<sz
theorem zV {L:List (List bz)}{w:World}{np nv n d1 N sz:Nat}{B1:Option Addr}(j:N<sz)(_:w.heap.size+5≤sz):OwnFrom sz (ED L w np nv B1 n d1 N sz):=by
 rintro s W W' row ⟨l,o,C,I,J⟩ R Y;have k:aa (fun b=>b<sz) W W':=(aa.refl _ W).grown R fun k Z=>.inl fun h=>by have:=(Y k Z).1;have h:k<sz:=h;omega
 exact⟨l.keep (k.mono fun b hb=>by omega),o.kept k j,fR C k.size,I,J⟩
def rM (L:List (List bz))(pre:List (EK L)):Prop:=∃pre' x,pre=pre'++[x]∧x.1.2.2.dst≠-1∧0≤(iV (pre'.map Subtype.val) x.1.2.2.dst).1
theorem wF {b:aw}(C:gY b){pre:List (EK b.Ng)}(h:rM b.Ng pre)(l:pre.map Subtype.val<+:(cd b.Ng).flatten):False:=by
 obtain⟨j,x,rfl,I,o⟩:=h;rw[ic] at l;rcases rA (j.map Subtype.val) x.1.2.2.dst with ⟨e,_⟩|⟨u,hu,he,_⟩;·rw[e] at o;exact absurd o (by decide)
 exact As C l hu I he
def Ik (b:aw)(w:World)(e:Ending)(w':World):Prop:=∃u,e=.returned (.tuple #[u,.bool true])∧aa All w w'∧ev (fun g=>w.heap.size≤g) w' u (jp b)
theorem Fs {b:aw}(C:b.Ng.length≤64)(j:b.Ng.flatten.length≤4096)(v:Int):aV (iV (cd b.Ng).flatten v).1∧aV (iV (cd b.Ng).flatten v).2:=by
 unfold aV;rcases rA (cd b.Ng).flatten v with ⟨e,_⟩|⟨t,I,_,e⟩;·rw[e];exact⟨by decide,by decide⟩
 obtain⟨l,o,J⟩:=nR.1 I;have R:=(lS.1 o).1;have Y:=(lS.1 J).1;have Z:l.length≤b.Ng.flatten.length:=by rw[List.length_flatten];exact qz (dr.2 ⟨l,mG o,rfl⟩)
 rw[e];simp only;omega
theorem Fu {b:aw}(R:gY b){nv:Nat}(C:b.vars=nv)(l:b.Ng.flatten.length≤4096)(Y:nv≤4102){S:Nat→Prop}{w:World}{g:Nat}{t:TypeId}(h:al w g t (aN (nv*2) (AM fun v=>iV (cd b.Ng).flatten v)))(Z:S g):ev S w (.slice (some ⟨g,0,none⟩) nv nv) (jp b):=by
 have J:(jp b).length=nv:=by simp[jp,C]
 refine⟨some ⟨g,0,none⟩,nv,by rw[J],by omega,by unfold maxLen;omega,by omega,fun i x o=>?_⟩;have hi:i<nv:=by rw[←J];exact(lS.1 o).1
 unfold jp at o;rw[cL,ln (by omega)] at o;cases o;have hw:=Fs R.blk.2 l i;refine⟨g,0,[.int .i64 (iV (cd b.Ng).flatten i).1,.int .i64 (iV (cd b.Ng).flatten i).2],rfl,Z,rfl,fun j c I=>?_,rfl,hw⟩;rcases j with _|_|j
 ·cases I
  rw[dj,cN,h.cell,bI (by omega),GI]
 ·cases I
  rw[cN,h.cell,bI (by omega),GJ]
 simp at I
theorem Ed (S:Nat→Prop)(bv:Value)(b:aw)(w:World)(hb:bW S w bv b.Ng)(hG:gY b)(d8:b.Ng.flatten.length≤4096):
 Calls prog 55 #[.agg #[.int .i64 b.params,.int .i64 b.vars,bv]] w (Ik b w):=by
 have d9:=vJ hb;obtain⟨B1,d1,rfl,m5,m6,m7,_⟩:=hb;obtain⟨A,F,hI⟩:=vw d9;unfold maxLen at m6;have e9:=hG.blk.2;have b8:=hG.num;have e0:=hG.par;have h0:og b.Ng.flatten≤b.Ng.flatten.length:=List.length_filter_le _ _;obtain⟨np,b9⟩:∃np:Nat,b.params=np:=⟨b.params.toNat,by omega⟩;obtain⟨nv,c3⟩:∃nv:Nat,b.vars=nv:=⟨b.vars.toNat,by omega⟩;have i7:np≤nv:=by omega
 have h3:nv≤4102:=by omega
 have j0:np≤6:=by omega
 rw[b9,c3];have Z:=J5 hG hI b9 c3 b8;clear hG hI b9 c3 b8 d9 h0 e0 m5 m6 m7;have t1:decide ((np:Int)<0)=false:=by simp
 have t2:decide ((np:Int)>(nv:Int))=false:=by simp;omega
 have h6:decide (nv<np)=false:=by simp;omega
 have t3:decide ((nv:Int)>4102)=false:=by simp;omega
 have h7:decide (4102<nv)=false:=by simp;omega
 have h8:=fun w=>Gi nv (by omega) w;refine(callsIn_wide (n:=8)).1 ?_;refine callsIn_of_wp_marks func55 rfl trivial ?_ rfl;simp only[ntmps55,List.size_toArray,kI,List.length_nil,Nat.reduceAdd,Nat.reduceSub,Array.replicate_succ,Array.replicate_zero,List.push_toArray,List.append_toArray,mF,List.cons_append];rw[wpIn_wide];go_wp2_with fail;clear t1 t2 h6 t3 h7 h8;go_loopg [29] nv (fun g s wr=>∃k:Nat,k≤nv∧g=nv-k∧s=.int .i64 k∧rN w np nv B1 b.Ng.length d1 (fun v=>if v<k then(-1,-1) else(0,0)) wr)
 case atStart=>refine⟨0,by omega,by omega,rfl,((((kR.alloc _).alloc _).alloc _).alloc _).alloc _,by simp,((((al.new _ _ _).alloc _).alloc _).alloc _).alloc _,(((ac (by simp)).alloc _).alloc _).alloc _,((ac (by simp)).alloc _).alloc _,?_,ac (by simp)⟩;rw[GK];exact(ac (by simp)).alloc _
 obtain⟨k,hk,rfl,rfl,R⟩:=hrel;have c0:=R.out.cell 0;simp only[gc] at c0;by_cases j1:k<nv;·(
 have c1:=R.tab.cell (k*2);have c2:=R.tab.cell (k*2+1);have f1:=R.tab.free (k*2);have f2:=R.tab.free (k*2+1);rw[bI (by omega)] at c1 c2;have a1:=R.set (g:=fun v=>if v<k+1 then(-1,-1) else(0,0)) (v:=k) (fun u hu=>by
  by_cases h:u<k;·rw[ap h,ap (by omega)]
  rw[ae h,ae (by omega)]) (x:= -1) (y:= -1) (ap (by omega))
 have HN:=oH a1;clear R a1;go_wp2_with fail;go_roundg (nv-(k+1));·exact⟨k+1,by omega,rfl,by go_num,HN.out⟩
 omega)
 have e:nv=k:=by omega
 subst e;obtain⟨W5,b4⟩:=eQ (wr.alloc (.cells #[.int .i64 np] 3));have c4:aa All wr W5:=by rw[b4];exact kR.alloc _
 have e3:al W5 wr.heap.size 3 #[.int .i64 np]:=by rw[b4];exact ac rfl
 have a6:=R.keep c4.all;have g0:=R.body.cell 0;have g1:=R.body.cell 1;have g2:=R.body.cell 2;have b0:=a6.body.cell 0;have b1:=a6.body.cell 1;have b2:=a6.body.cell 2;simp only[gc] at g0 g1 g2 b0 b1 b2;have HW:=J4 b4 c4 e3 a6;have j2:=R.size;clear b4 c4 e3 a6 R;go_upto_region 10 with fail;rw[←HW.1];clear g0 g1 g2;go_wp2_with fail;refine(zk _ _ _ _ _ _).mono ?_;rintro e w' ⟨rfl,rfl⟩;obtain⟨wl,b5⟩:=eQ (W5.alloc (.cells #[.int .i64 np,.int .i64 nv,.slice B1 b.Ng.length d1] 48));have b6:aa All W5 wl:=by rw[b5];exact kR.alloc _
 have e4:al wl W5.heap.size 48 #[.int .i64 np,.int .i64 nv,.slice B1 b.Ng.length d1]:=by rw[b5];exact ac rfl
 have c5:=HW.2.2.2.keep b6.all;have e5:=HW.2.2.1.kept b6 trivial;have e6:iJ (fun g=>g<w.heap.size) w wl:=(iJ.refl _ _).kept c5.kept.all;have i5:=HW.2.2.1.lt;have i6:=b6.size;rw[←b5];have HL:=J4 c5 e5 e4 e6;clear b5 c5 e5 b6 e4 b0 b1 b2 e6;go_wp2_with fail
 refine wpIn_wide.1 (lW (F:=Fence.wide) (n:=8) rfl (by omega) (gf:=85) (lb:=#[.pointer (some ⟨W5.heap.size,0,none⟩)]) rfl trivial (enters_of func85 (by kernel_rfl) rfl)
  (tM 7 (by omega) (fun g=>g<w.heap.size) w np nv B1 d1 b.Ng A F Z.2.1 e9 _ wl HL.2.2.2 HL.2.2.1) BY (BX _) (fun W o h=>h.kept (kR.alloc _)) (Below.refl _ _) (fun _=>rfl)
  (ED b.Ng w np nv B1 b.Ng.length d1 wr.heap.size wl.heap.size) (fun c pre _=>c=.ret∧rM b.Ng pre) (zV (by omega) (by omega)) (fun c s W W' row h _ _=>h) (fun pre W h=>h.2.2.1) ⟨?_,HL.2.1,cf _,by omega,by omega⟩
  7 8 107 52 (fun x=>#[.int .i64 (x.1.1:Nat),.int .i64 (x.1.2.1:Nat)]) (fun x=>#[.int .u8 x.1.2.2.kind,.int .u8 x.1.2.2.op,.int .i64 x.1.2.2.dst,.int .i64 x.1.2.2.ref,.int .i64 x.1.2.2.Ni,A x.1.1 x.1.2.1,F x.1.1 x.1.2.1,.int .i64 x.1.2.2.num,.int .i64 x.1.2.2.Nj]) ?assign ?body ?done ?stop)
 case assign=>(intro l x W K hK;obtain⟨⟨i,k,x⟩,row,C,hx⟩:=x;obtain⟨⟨aA,cA,eA,_⟩,⟨aF,cF,eF,_⟩,_⟩:=Z.2.1.ints i row C k x hx;dsimp only at hK⊢;rw[eA,eF] at hK⊢;simp only[List.zip_toArray,List.zip_cons_cons,List.zip_nil_right,List.foldl_toArray',List.size_toArray,kI,List.length_nil,List.foldl_cons,List.foldl_nil,ga] at hK;gi_wp2;exact hK)
 case body=>(
 rintro l pre x b1 b2 W j3 j4 j5 c6 c7 ⟨I,Y,hs,h4,h5⟩ h9;obtain⟨⟨i,k,x⟩,row,C,hx⟩:=x;obtain⟨⟨aA,cA,eA,_⟩,⟨aF,cF,eF,_⟩,_⟩:=Z.2.1.ints i row C k x hx;dsimp only at c6 c7⊢;rw[eA,eF] at c7⊢;have a7:((pre.map Subtype.val)++[((i,k,x):iL)])=(pre++[(⟨(i,k,x),row,C,hx⟩:EK b.Ng)]).map Subtype.val:=by rw[ic];rfl
 have x0:=c6.cell 0;have x1:=c6.cell 1;have y2:=c7.cell 2;have z0:=I.body.cell 0;have z1:=I.body.cell 1;have z4:=I.out.cell 0;have zn:=Y.cell 0;have fn:=Y.free 0;simp only[gc] at x0 x1 y2 z0 z1 z4 zn;by_cases hd:x.dst= -1;·(
 have j:=J4 I Y hs a7;have td:(x.dst== -1)=true:=by rw[cy];exact hd
 clear I Y hs a7;gi_wp2;refine⟨KeepsFrom.refl _ _,fun h=>h,?_,?_,j.2.2.1,h4,h5⟩
 ·rw[←j.2.2.2];have e:(fun v:Nat=>iV (pre.map Subtype.val++[((i,k,x):iL)]) v)=fun v:Nat=>iV (pre.map Subtype.val) v:=by funext v;exact BO (by show x.dst≠_;omega)
  rw[e];exact j.1
 rw[←j.2.2.2,ic,xY];have e:og ([((i,k,x):iL)].map fun t=>t.2.2)=0:=by rw[List.map_cons,List.map_nil,xZ,ap hd]
 rw[e,dj];exact j.2.1)
 obtain⟨h1,h2⟩:=(Z.1.dst row (mG C) x (mG hx)).resolve_left hd;rw[Z.2.2.1] at h1;rw[Z.2.2.2.1] at h2;obtain⟨v,hv⟩:∃v:Nat,x.dst=v:=⟨x.dst.toNat,by omega⟩;rw[hv] at y2 h1 h2;have c8:=I.tab.cell (v*2);have c9:=I.tab.cell (v*2+1);have j6:=I.tab.free (v*2);have j7:=I.tab.free (v*2+1);rw[bI (by omega),GI] at c8;rw[bI (by omega),GJ] at c9;have a8:=I.set (g:=fun u:Nat=>iV (pre.map Subtype.val++[((i,k,x):iL)]) u) (v:=v) (fun u hu=>BO (by show x.dst≠_;omega)) (x:=i) (y:=k);have b7:og ((pre.map Subtype.val++[((i,k,x):iL)]).map fun t=>t.2.2)=og ((pre.map Subtype.val).map fun t=>t.2.2)+1:=by rw[ic,xY,List.map_cons,List.map_nil,xZ,ae hd]
 obtain⟨m,hm⟩:=eR (og ((pre.map Subtype.val).map fun t=>t.2.2));rw[hm] at zn Y b7;have j8:m≤5000:=by(
 have e1:m≤((pre.map Subtype.val).map fun t=>t.2.2).length:=by rw[←hm];exact List.length_filter_le _ _
 have e2:=congrArg List.length (vt b.Ng);rw[ce] at e2;rw[ce,ce] at e1;omega)
 have j9:v<nv:=by omega
 rcases rA (pre.map Subtype.val) (v:Int) with ⟨e,e7⟩|⟨u,hu,he,e⟩;·(
 have b3:=a8 (by show iV _ _=_;rw[←hv];exact Ft fun u hu=>by rw[show((i,k,x):iL).2.2.dst=(v:Int) from hv];exact e7 u hu);have j:=J5 b3 Y hs a7 b7;rw[e] at c8 c9;have td:((v:Int)== -1)=false:=by rw[bE];omega
 have te:decide ((v:Int)<(np:Int))=false:=by simp;omega
 have i0:decide (v<np)=false:=by simp;omega
 have tf:decide ((v:Int)≥(nv:Int))=false:=by simp;omega
 have i1:decide (nv≤v)=false:=by simp;omega
 clear I Y hs a7 a8 b3 hv hd e7 e h1 h2 b7 hm;gi_wp2;refine⟨(((KeepsOthers.setCell _ _ _).trans (KeepsOthers.setCell _ _ _)).trans (KeepsOthers.setCell _ _ _)).from _,fun h=>h.kept (((aa.refl _ W).setCell (p:=⟨w.heap.size+1+1+1,_,none⟩) (.inl (by simp;omega)) _).setCell (p:=⟨w.heap.size+1+1+1,_,none⟩) (.inl (by simp;omega)) _|>.setCell (p:=⟨wr.heap.size,0,none⟩) (.inl (by simp;omega)) _),?_,?_,by simpa using j.2.2.1,h4,h5⟩
 ·rw[←j.2.2.2.1]
  exact j.1.keep (kR.setCell (p:=⟨wr.heap.size,0,none⟩) (.inl (by simp;omega)) _)
 rw[←j.2.2.2.1,j.2.2.2.2];have:=((j.2.1.far (p:=⟨w.heap.size+1+1+1,v*2,none⟩) (by simp;omega) (.int .i64 i)).far (p:=⟨w.heap.size+1+1+1,v*2+1,none⟩) (by simp;omega) (.int .i64 k)).set 0 (.int .i64 (np+(m+1):Nat));simpa [Int.add_assoc] using this)
 have j:=J2 hs (show rM b.Ng (pre++[(⟨(i,k,x),row,C,hx⟩:EK b.Ng)]) from⟨pre,_,rfl,hd,by show 0≤(iV _ x.dst).1;rw[hv,e];simp⟩);rw[e] at c8 c9;have td:((v:Int)== -1)=false:=by rw[bE];omega
 have te:decide ((v:Int)<(np:Int))=false:=by simp;omega
 have i0:decide (v<np)=false:=by simp;omega
 have tf:decide ((v:Int)≥(nv:Int))=false:=by simp;omega
 have i1:decide (nv≤v)=false:=by simp;omega
 have tu:decide ((u.1:Int)≥0)=true:=by simp
 have r1:=I.r1.cell 0;have r2:=I.r2.cell 0;have i2:=I.r1.free 0;have i4:=I.r2.free 0;simp only[gc] at r1 r2;clear I Y hs a7 a8 hv hd hu he e h1 h2 b7 hm;gi_wp2;exact⟨((KeepsOthers.setCell _ _ _).trans (KeepsOthers.setCell _ _ _)).from _,rfl,j.2⟩)
 case done=>(
 rintro D xs W I hS ⟨J,Y,hs,h4,h5⟩ hK;have e8:(xs.map Subtype.val).map (fun t=>t.2.2)=b.Ng.flatten:=by rw[hS];exact vt _
 rw[e8] at Y;rw[show np+og b.Ng.flatten=nv by have:=Z.2.2.2.2;have:=Z.2.2.1;have:=Z.2.2.2.1;omega] at Y;have zn:=Y.cell 0;have z1:=J.body.cell 1;have z4:=J.out.cell 0;have r1:=J.r1.cell 0;have r2:=J.r2.cell 0;have i2:=J.r1.free 0;have i4:=J.r2.free 0;simp only[gc] at zn z1 z4 r1 r2;have j:=J3 J hS hK;clear J hS hK Y;go_wp2;have d7:=((KeepsOthers.setCell W ⟨w.heap.size+1,0,none⟩ (.slice (some ⟨w.heap.size+1+1+1,0,none⟩) nv nv)).trans (KeepsOthers.setCell _ ⟨w.heap.size+1+1,0,none⟩ (.bool true))).same D _ j.2.2 rfl;refine⟨by simp,.inl ⟨_,_,rfl,run_takeDeferred d7,?_⟩⟩;have q1:=((j.1.r1.set 0 (.slice (some ⟨w.heap.size+1+1+1,0,none⟩) nv nv)).far (p:=⟨w.heap.size+1+1,0,none⟩) (by simp) (.bool true)).cell 0;have q2:=((j.1.r2.far (p:=⟨w.heap.size+1,0,none⟩) (by simp) (.slice (some ⟨w.heap.size+1+1+1,0,none⟩) nv nv)).set 0 (.bool true)).cell 0;have q3:=cell_kept q1 (grownBy_putObj' _ D (.deferred none)) (fun r e=>by cases e;exact⟨_,d7,rfl⟩);have q4:=cell_kept q2 (grownBy_putObj' _ D (.deferred none)) (fun r e=>by cases e;exact⟨_,d7,rfl⟩)
 have k3:aa (fun g=>g≠w.heap.size+1∧g≠w.heap.size+1+1∧g<wl.heap.size) W (((W.setCell ⟨w.heap.size+1,0,none⟩ (.slice (some ⟨w.heap.size+1+1+1,0,none⟩) nv nv)).setCell ⟨w.heap.size+1+1,0,none⟩ (.bool true)).putObj D (.deferred none)):=
  aa.put (((aa.refl _ W).setCell (p:=⟨w.heap.size+1,0,none⟩) (.inl (by simp)) _).setCell (p:=⟨w.heap.size+1+1,0,none⟩) (.inl (by simp)) _) (.inl (by simp;omega)) _
 have k4:=am (j.1.kept.all.trans (k3.mono fun b (hb:b<w.heap.size)=>by refine⟨?_,?_,?_⟩<;>omega));have tb:=j.1.tab.kept k3 ⟨by omega,by omega,by omega⟩;rw[j.2.1] at tb;refine⟨.tuple #[.slice (some ⟨w.heap.size+1+1+1,0,none⟩) nv nv,.bool true],?_,_,rfl,k4,?_⟩
 ·simp at q3 q4
  simp[results,Tryz.f55,go_sem,q3,q4]
 exact Fu Z.1 Z.2.2.2.1 d8 h3 tb (by omega))
 case stop=>rintro D c pre W I hS ⟨_,h⟩ hK;exact(wF Z.1 h hS).elim
 exact HL.1.congr fun v hv=>ap hv
end
theorem xV {b:aw}(o:gY b){v:Nat}(J:(v:Int)<b.vars):((v:Int)<b.params∧iV (cd b.Ng).flatten v=(-1,-1))∨(¬(v:Int)<b.params∧∃i k:Nat,jF b v i k∧iV (cd b.Ng).flatten v=((i:Int),(k:Int))):=by
 rcases rA (cd b.Ng).flatten (v:Int) with ⟨e,R⟩|⟨u,hu,he,e⟩
 ·by_cases Y:(v:Int)<b.params;·exact .inl ⟨Y,e⟩
  obtain⟨i,k,j⟩:=o.all v (by omega) J;obtain⟨x,Z,j⟩:=qr.1 j;exact absurd j (R _ Z)
 obtain⟨l,C,I⟩:=nR.1 hu;have j:=o.dst l (mG C) u.2.2 (mG I);refine .inr ⟨by omega,u.1,u.2.1,⟨l,u.2.2,C,I,he⟩,e⟩
def rJ (S:Nat→Prop)(w:World)(kb:Nat)(b:aw)(t:Nat→Int):Prop:=∃bv A3 c3 A4 c4 A5 c5,al w kb 101 #[.int .i64 b.params,.int .i64 b.vars,bv,.slice A3 b.Ng.length c3,.slice A4 b.Ng.length c4,.slice A5 b.vars.toNat c5]∧
 aK S w (.slice A3 b.Ng.length c3) (lV b.Ng.length t)∧Rows S w (.slice A4 b.Ng.length c4) (gF (bM b))∧ev S w (.slice A5 b.vars.toNat c5) (jp b)
theorem rJ.keep {S R:Nat→Prop}{w o:World}{j:Nat}{b:aw}{t:Nat→Int}(h:rJ S w j b t)(k:aa R w o)(l:∀g,S g→R g)(C:R j):rJ S o j b t:=by obtain⟨I,J,Y,Z,c4,A5,c5,h1,h2,h3,h4⟩:=h;exact⟨I,J,Y,Z,c4,A5,c5,h1.kept k C,ah.keep (k.mono l) h2,aq.keep (k.mono l) h3,bu.keep (k.mono l) h4⟩
theorem uR {b:aw}{v:Nat}(j:(v:Int)<b.vars):(jp b)[v]? =some (iV (cd b.Ng).flatten v):=by unfold jp;rw[cL,ln (by omega)];rfl
theorem vU (S:Nat→Prop)(kb:Nat)(b:aw)(pl:Nat→Nat)(t:Nat→Int)(v blk:Nat)(w:World)(hC:rJ S w kb b t)(hG:gY b)(T:mz (bM b) t pl)(hv:(v:Int)<b.vars)(o:blk<b.Ng.length):
 Calls prog 89 #[.pointer (some ⟨kb,0,none⟩),.int .i64 v,.int .i64 blk] w fun e w'=>e=.returned (.bool (pB (jl b v blk)))∧aa All w w':=by
 have a6:=cS b;have C:=fun wn (o:aa All w wn)=>hC.keep o (fun _ _=>trivial) trivial;obtain⟨bv,A3,c3,A4,c4,A5,c5,h1,h2,h3,h4⟩:=hC;obtain⟨db,dO,cs,rfl,_,_,Y,rfl,_⟩:=aZ h4 (uR hv);have I:=xV hG hv;obtain⟨⟨d0,d1⟩,J⟩:∃d,iV (cd b.Ng).flatten v=d:=⟨_,rfl⟩;rw[J] at I Y;simp only[Prod.mk.injEq] at I;have q0:=Y 0 _ rfl;have q1:=Y 1 _ rfl;rw[dj] at q0;have k3:=h1.cell 3;have k5:=h1.cell 5;simp only[gc] at k3 k5;obtain⟨nv,a7⟩:∃nv:Nat,b.vars=nv:=⟨b.vars.toNat,by omega⟩;have b0:v<nv:=by omega
 rw[a7,dP] at k5;have a8:=o;obtain⟨W0,Z⟩:=eQ (w.alloc (.cells #[.int .i64 d0,.int .i64 d1] 107));have a1:aa All w W0:=by rw[Z];exact kR.alloc _
 have bD:al W0 w.heap.size 107 #[.int .i64 d0,.int .i64 d1]:=by rw[Z];exact ac rfl
 have HF:=oH (show∀wn,aa All W0 wn→wn.cell? ⟨w.heap.size,0,none⟩=some (.int .i64 d0)∧wn.cell? ⟨w.heap.size,1,none⟩=some (.int .i64 d1)∧wn.cell? ⟨kb,3,none⟩=some (.slice A3 b.Ng.length c3) from fun wn o=>⟨(bD.kept o trivial).cell 0,(bD.kept o trivial).cell 1,(h1.kept (a1.trans o) trivial).cell 3⟩);have HG:=J3 hG T h2;have HW:=J4 Z a1 J C;clear hG T h1 h2 h3 h4 Y Z a1 bD J C a6;go_enter func89,ntmps89;go_upto_region 2 with fail;rw[←HW.1];clear k3 k5 q0 q1;rcases I with ⟨hp,rfl,rfl⟩|⟨hp,i,j,hd,rfl,rfl⟩
 ·have HY:=oH (show jl b v blk from .inl hp);clear hp;refine R0 14 W0 (fun _=>none) ?_;refine O0 ?_;refine O4 HF.out ?_;iterate 2 refine O0 ?_
  iterate 8 refine O2 ?_
  iterate 2 refine O0 ?_
  refine aG fun wt R hF=>?_;have HT:=oH R;clear R hF;simp only[dK];go_wp2_with fail;go_ret;exact⟨by rw[av HY.out]<;>rfl,HW.2.1.trans HT.out⟩
 have he:=kC (qs (blk:=blk) HG.1 (by omega) hp hd);obtain⟨q,hq⟩:=eR (pB (jl b v blk));have l:=fun wn (o:aa All W0 wn)=>uk S (bM b) (.slice A3 b.Ng.length c3) t pl i blk wn (by rw[cS];exact ah.keep (HW.2.1.trans o).all HG.2.2) HG.2.1 (by rw[cS];have:=HG.1.blk.2;omega) (by rw[cS];exact a8);rw[←he,hq] at l;have HC:=J2 l hq;clear he l hq hd hp;refine R0 14 W0 (fun i=>if i=11 then some (·=.bool q) else none) ?_;refine O0 ?_;refine O4 HF.out ?_;iterate 5 refine O0 ?_
 refine O4 HF.out ?_;refine O0 ?_;refine O4 HF.out ?_;refine O0 ?_;refine O5 (v:=.bool q) (fun wn o hp=>⟨_,_,by(skip;go_simp<;>with_reducible rfl),((HC.1 wn o).mono fun e w' h=>⟨h.1,o.trans h.2,fun _ h=>by cases h⟩)⟩) ?_;iterate 2 refine O0 ?_
 refine aG fun wt R hF=>?_;have HT:=oH R;clear R hF;simp only[dK];go_wp2_with fail;go_ret;exact⟨by rw[HC.2]<;>rfl,HW.2.1.trans HT.out⟩
theorem Br (S:Nat→Prop)(kb:Nat)(b:aw)(pl:Nat→Nat)(t:Nat→Int)(v blk n:Nat)(w:World)(hC:rJ S w kb b t)(hG:gY b)(T:mz (bM b) t pl)(hv:(v:Int)<b.vars)(hk:blk<b.Ng.length):
 Calls prog 58 #[.pointer (some ⟨kb,0,none⟩),.int .i64 v,.agg #[.int .i64 blk,.int .i64 n]] w fun e w'=>e=.returned (.bool (pB (iP b v blk n)))∧aa All w w':=by
 have a8:=cS b;have l:=fun wn (hk:aa All w wn)=>hC.keep hk (fun _ _=>trivial) trivial;obtain⟨bv,A3,c3,A4,c4,A5,c5,h1,h2,h3,h4⟩:=hC;obtain⟨db,dO,cs,rfl,_,_,Y,rfl,_⟩:=aZ h4 (uR hv);have o:=xV hG hv;obtain⟨⟨d0,d1⟩,C⟩:∃d,iV (cd b.Ng).flatten v=d:=⟨_,rfl⟩;rw[C] at o Y;simp only[Prod.mk.injEq] at o;have q0:=Y 0 _ rfl;have q1:=Y 1 _ rfl;rw[dj] at q0;have k3:=h1.cell 3;have k5:=h1.cell 5;simp only[gc] at k3 k5;obtain⟨nv,b0⟩:∃nv:Nat,b.vars=nv:=⟨b.vars.toNat,by omega⟩;have b1:v<nv:=by omega
 rw[b0,dP] at k5;have b2:=hk;have kw:aa All w (w.alloc (.cells #[.int .i64 blk,.int .i64 n] 107)):=kR.alloc _;have q0:=kw.cell trivial q0;have q1:=kw.cell trivial q1;have k5:=kw.cell trivial k5;obtain⟨W0,I⟩:=eQ ((w.alloc (.cells #[.int .i64 blk,.int .i64 n] 107)).alloc (.cells #[.int .i64 d0,.int .i64 d1] 107));have a7:aa All w W0:=by rw[I];exact(kR.alloc _).alloc _
 have bA:al W0 w.heap.size 107 #[.int .i64 blk,.int .i64 n]:=by rw[I];exact(ac rfl).alloc _
 have bD:al W0 (w.heap.size+1) 107 #[.int .i64 d0,.int .i64 d1]:=by rw[I];exact ac (by simp)
 have a0:=bA.cell 0;have a1:=bA.cell 1;have r0:=bD.cell 0;have r1:=bD.cell 1;simp only[gc] at a0 a1 r0 r1;have J:=vU S kb b pl t v blk W0 (l W0 a7) hG T (by omega) hk;have HG:=J3 hG J T;have HW:=J4 I a7 C l;clear hG T h1 h2 h3 h4 Y I a7 bD bA C l a8 J;go_enter func58,ntmps58;go_upto_region 2 with fail;rw[←HW.1];clear k3 k5 q0 q1;rcases o with ⟨hp,rfl,rfl⟩|⟨hp,i,j,hd,rfl,rfl⟩
 ·have HY:=J2 (show jl b v blk from .inl hp) (show iP b v blk n from .inl hp);clear hp;have te:((-1:Int)==(blk:Int))=false:=by rw[bE];omega
  have hc:=HG.2.1;rw[av HY.1] at hc;have HC:=oH hc;clear hc;go_wp2_with fail;refine HC.out.mono ?_;rintro e w2 ⟨rfl,R⟩;have HK:=oH R;clear R;go_wp2_with fail;go_ret;exact⟨by rw[av HY.2]<;>rfl,HW.2.1.trans HK.out⟩
 have ht:=tP (n:=n) (blk:=blk) HG.1 (by omega) hp hd;by_cases Z:i=blk
 ·have te:((i:Int)==(blk:Int))=true:=by rw[cy];omega
  rw[ap Z] at ht;have HT:=oH (kC ht);clear ht Z hp hd;go_wp2_with fail;go_ret;refine⟨?_,HW.2.1⟩;rw[HT.out];by_cases a6:j<n;·rw[av a6];simp[a6]
  rw[au a6];simp[a6]
 have te:((i:Int)==(blk:Int))=false:=by rw[bE];omega
 rw[ae Z] at ht;have he:=qs (blk:=blk) HG.1 (by omega) hp hd;obtain⟨q,hq⟩:=eR (pB (jl b v blk));have hc:=HG.2.1;rw[hq] at hc;have HC:=J2 hc ((kC (ht.trans he.symm)).trans hq);clear ht he Z hp hd hc hq;go_wp2_with fail;refine HC.1.mono ?_;rintro e w2 ⟨rfl,R⟩;have HK:=oH R;clear R;go_wp2_with fail;go_ret;exact⟨by rw[HC.2]<;>rfl,HW.2.1.trans HK.out⟩
section
open Classical in
noncomputable def mH (b:aw)(i:Nat)(x:bz):Int:=if lZ b x i then(if∀(m:Nat) v f,x.args[m]? =some v→x.Nh[m]? =some f→jl b v f.toNat then 0 else 19) else 18
open Classical in
theorem Ck {b:aw}{i k:Nat}{x:bz}(h:x.kind=3):uo b i k x=mH b i x:=by unfold uo mH;rw[ap h]
theorem wZ {b:aw}{i:Nat}{x:bz}(h:¬lZ b x i):mH b i x=18:=by unfold mH;rw[ae h]
theorem Cl {b:aw}{i:Nat}{x:bz}(h:lZ b x i){m:Nat}{v f:Int}(j:x.args[m]? =some v)(l:x.Nh[m]? =some f)(o:¬jl b v f.toNat):mH b i x=19:=by unfold mH;rw[ap h,ae fun h'=>o (h' m v f j l)]
theorem GC {b:aw}{i:Nat}{x:bz}(h:lZ b x i)(j:∀(m:Nat) v f,x.args[m]? =some v→x.Nh[m]? =some f→jl b v f.toNat):mH b i x=0:=by unfold mH;rw[ap h,ap j]
theorem zU {l:List Int}{k:Nat}{y a:Int}(h:l[k]? =some y):(l.take (k+1)).count a=(l.take k).count a+if y=a then 1 else 0:=by
 rw[cU,h,List.count_append];by_cases e:y=a;·rw[ap e];subst e;simp
 rw[ae e];simp[e]
theorem Hf (S T:Nat→Prop)(bv tv a5 a6:Value)(b:aw)(x:bz)(blk:Nat)(w:World)(hb:bW S w bv b.Ng)(ht:Rows T w tv (bM b))(hG:gY b)(_:blk<b.Ng.length)
 (c0:aK S w a5 x.args) (c1:aK S w a6 x.Nh) (hl:x.Nh.length=x.args.length∧x.Nh.length≤64) (b6:∀a∈x.Nh,0≤a∧a<b.Ng.length) (c2:∀a∈x.args,0≤a∧a<b.vars):
 Calls prog 45 #[.agg #[.int .i64 b.params,.int .i64 b.vars,bv],tv,.agg #[.int .u8 x.kind,.int .u8 x.op,.int .i64 x.dst,.int .i64 x.ref,.int .i64 x.Ni,a5,a6,.int .i64 x.num,.int .i64 x.Nj],.int .i64 blk] w fun e w'=>e=.returned (.int .i64 (mH b blk x))∧aa All w w':=by
 have c3:=bg.la hb;have b7:=aq.la ht;have c4:=ah.la c0;have c5:=ah.la c1;obtain⟨B1,d1,rfl,m5,m6,m7,_⟩:=hb;obtain⟨TA,tc,rfl,t1,t2,t3,_⟩:=ht;have b4:(bM b).length=b.Ng.length:=cS b;rw[b4] at t1 t3 b7⊢;obtain⟨ua,uc,rfl,u1,u2,u3,_⟩:=c0;obtain⟨va,vc,rfl,v1,v2,v3,_⟩:=c1;unfold maxLen at*;have h7:=hG.blk.2;have b5:=xe (ll:=bM b) (l:=x.Nh) (k:=blk) (by rw[b4];exact b6);have HL:=J5 hl b6 c2 b4 b5;have h4:x.Nh.length≤64:=hl.2;have h5:x.Nh.length≤x.args.length:=eE hl.1;have h6:x.args.length≤x.Nh.length:=eE hl.1.symm;clear hl b6 c2 b4 b5;obtain⟨W0,a7⟩:=eQ ((w.alloc (.cells #[.int .i64 b.params,.int .i64 b.vars,.slice B1 b.Ng.length d1] 48)).alloc (.cells #[.int .u8 x.kind,.int .u8 x.op,.int .i64 x.dst,.int .i64 x.ref,.int .i64 x.Ni,.slice ua x.args.length uc,.slice va x.Nh.length vc,.int .i64 x.num,.int .i64 x.Nj] 52));have c6:aa All w W0:=by rw[a7];exact(kR.alloc _).alloc _
 have bB:al W0 w.heap.size 48 #[.int .i64 b.params,.int .i64 b.vars,.slice B1 b.Ng.length d1]:=by rw[a7];exact(al.new _ _ _).alloc _
 have bX:al W0 (w.heap.size+1) 52 #[.int .u8 x.kind,.int .u8 x.op,.int .i64 x.dst,.int .i64 x.ref,.int .i64 x.Ni,.slice ua x.args.length uc,.slice va x.Nh.length vc,.int .i64 x.num,.int .i64 x.Nj]:=by rw[a7];exact ac (by simp)
 obtain⟨b0,b1,b2⟩:=bB.c3;obtain⟨x0,x1,x2,x3,x4,x5,x6,x7,x8⟩:=bX.c9;have HG:=oH hG;have J:=J8 a7 c6 bB bX c3 b7 c4 c5;clear a7 c6 bB bX c3 b7 c4 c5 hG;go_enter func45,ntmps45;go_upto_region 1 with fail;rw[←J.1];go_wp2_with fail;go_loopg [9,10] b.Ng.length (fun g s9 e1 wr=>∃j:Nat,j≤b.Ng.length∧g=b.Ng.length-j∧e1=.int .i64 j∧s9=.int .i64 (uh x.Nh j)∧wr=W0∧∀i:Nat,i<j→(dH (bM b) i blk→x.Nh.count (i:Int)=1)∧(¬dH (bM b) i blk→x.Nh.count (i:Int)=0));·exact⟨0,by omega,by omega,rfl,by rw[KT fun a ha=>(HL.2.1 a ha).1]<;>rfl,rfl,fun i hi=>by omega⟩
 obtain⟨j,hj,rfl,rfl,rfl,hw,C⟩:=hrel;have b8:=hw.symm;subst b8;have e2:uh x.Nh j≤x.Nh.length:=List.length_filter_le _ _;obtain⟨cb,Y⟩:=eR (uh x.Nh j);rw[Y] at e2⊢;by_cases b9:j<b.Ng.length;·(
 have HA:=J2 C Y;clear C Y;go_wp2_with fail;go_loopg [11,12] x.Nh.length (fun g e3 e4 wr=>∃k:Nat,k≤x.Nh.length∧g=x.Nh.length-k∧e4=.int .i64 k∧e3=.int .i64 ((x.Nh.take k).count (j:Int))∧wr=W0);·exact⟨0,by omega,by omega,rfl,by rw[List.take_zero];rfl,rfl⟩
 obtain⟨k,e5,rfl,rfl,rfl,hw⟩:=hrel;have b8:=hw.symm;subst b8;have e6:(x.Nh.take k).count (j:Int)≤k:=fR List.count_le_length (by rw[fN];omega);obtain⟨ct,a1⟩:=eR ((x.Nh.take k).count (j:Int));rw[a1] at e6⊢;by_cases a8:k<x.Nh.length;·(
 obtain⟨y,hy⟩:=eG a8;obtain⟨yb,yo,c,rfl,e7,h8,rfl,e8⟩:=bn (J.2.2.2.2.2.2.2 W0 J.2.1) hy;have HY:=J2 (zU (a:=(j:Int)) hy) a1;clear hy a1 e7 e8;by_cases e:y=(j:Int)
 ·have t:(y==(j:Int))=true:=by rw[cy];exact e
  have HE:=oH e;clear e;go_wp2_with fail;go_roundg (x.Nh.length-(k+1));·exact⟨k+1,by omega,rfl,by go_num,by rw[HY.1,ap HE.out,HY.2];go_num,rfl⟩
  omega
 have t:(y==(j:Int))=false:=by rw[bE];exact e
 have HE:=oH e;clear e;go_wp2_with fail;go_roundg (x.Nh.length-(k+1));·exact⟨k+1,by omega,rfl,by go_num,by rw[HY.1,ae HE.out,HY.2]<;>rfl,rfl⟩
 omega)
 obtain rfl:k=x.Nh.length:=by omega
 rw[dZ] at a1;have c7:=tF T _ (bM b) j blk W0 (J.2.2.2.2.2.1 W0 J.2.1) (by rw[HL.2.2.2.1];exact b9);have HC:=J2 a1 c7;clear a1 c7;go_wp2_with fail;refine HC.2.mono ?_;rintro e w2 ⟨rfl,hw⟩;subst hw;by_cases I:dH (bM b) j blk;·(
 rw[av I];by_cases he:ct=1;·(
 have t:((ct:Int) !=1)=false:=by rw[gj];omega
 have HO:=J2 I he;clear I he;go_wp2_with fail;go_roundg (b.Ng.length-(j+1))
 ·refine⟨j+1,by omega,rfl,by go_num,by rw[uP fun a ha=>(HL.2.1 a ha).1,HA.2,HC.1];go_num,rfl,fun i hi=>?_⟩
  by_cases e:i=j;·subst e;rw[HC.1,HO.2];exact⟨fun h=>rfl,fun h=>absurd HO.1 h⟩
  exact HA.1 i (by omega)
 omega)
 have t:((ct:Int) !=1)=true:=by rw[bne_iff_ne];omega
 have HN:=oH (wZ (b:=b) (i:=blk) (x:=x) fun h=>he (by have h2:=HL.2.2.2.2.1 (mp.1 h) j (by rw[HL.2.2.2.1];exact b9);rw[ap I,HC.1] at h2;exact h2));clear I he;go_wp2_with fail;go_ret;exact⟨by rw[HN.out]<;>rfl,J.2.1⟩)
 rw[au I];by_cases he:ct=0;·(
 have t:((ct:Int) !=0)=false:=by rw[gj];omega
 have HO:=J2 I he;clear I he;go_wp2_with fail;go_roundg (b.Ng.length-(j+1))
 ·refine⟨j+1,by omega,rfl,by go_num,by rw[uP fun a ha=>(HL.2.1 a ha).1,HA.2,HC.1];go_num,rfl,fun i hi=>?_⟩
  by_cases e:i=j;·subst e;rw[HC.1,HO.2];exact⟨fun h=>absurd h HO.1,fun h=>rfl⟩
  exact HA.1 i (by omega)
 omega)
 have t:((ct:Int) !=0)=true:=by rw[bne_iff_ne];omega
 have HN:=oH (wZ (b:=b) (i:=blk) (x:=x) fun h=>he (by have h2:=HL.2.2.2.2.1 (mp.1 h) j (by rw[HL.2.2.2.1];exact b9);rw[ae I,HC.1] at h2;exact h2));clear I he;go_wp2_with fail;go_ret;exact⟨by rw[HN.out]<;>rfl,J.2.1⟩)
 obtain rfl:j=b.Ng.length:=by omega
 have c8:=Fk (l:=x.Nh) (n:=b.Ng.length) fun a ha=>(HL.2.1 a ha).2;rw[Y] at c8;have t:((cb:Int) !=(x.Nh.length:Int))=false:=by rw[gj];omega
 have HP:=oH (show lZ b x blk from mp.2 (HL.2.2.2.2.2 fun i hi=>by
  rw[HL.2.2.2.1] at hi;by_cases h:dH (bM b) i blk;·rw[ap h];exact(C i hi).1 h
  rw[ae h];exact(C i hi).2 h))
 clear C c8 Y;go_wp2_with fail;go_loopg [14] x.args.length (fun g s wr=>∃k:Nat,k≤x.args.length∧g=x.args.length-k∧s=.int .i64 k∧aa All W0 wr∧∀(m:Nat) v f,m<k→x.args[m]? =some v→x.Nh[m]? =some f→jl b v f.toNat);·exact⟨0,by omega,by omega,rfl,kR,fun m v f hm=>by omega⟩
 obtain⟨k,e5,rfl,rfl,o,C⟩:=hrel;have Z:=J.2.1.trans o;clear x0 x1 x2 x3 x4 x5 x6 x7 x8 b0 b1 b2;have c9:=J.2.2.1.kept o trivial;have d7:=J.2.2.2.1.kept o trivial;obtain⟨b0,b1,b2⟩:=c9.c3;obtain⟨x0,x1,x2,x3,x4,x5,x6,x7,x8⟩:=d7.c9;clear c9 d7;by_cases a8:k<x.args.length;·(
 have h9:k<x.Nh.length:=by omega
 obtain⟨v,hv⟩:=eG a8;obtain⟨f,hf⟩:∃f,x.Nh[k]? =some f:=⟨_,lG (by omega)⟩;obtain⟨vb,vo,c,rfl,e9,d8,rfl,h0⟩:=bn (J.2.2.2.2.2.2.1 wr Z) hv;obtain⟨fb,fo,c,rfl,h3,d9,rfl,e0⟩:=bn (J.2.2.2.2.2.2.2 wr Z) hf;obtain⟨f0,f1⟩:=HL.2.1 f (mG hf);obtain⟨v0,_⟩:=HL.2.2.1 v (mG hv);obtain⟨fn,rfl⟩:∃fn:Nat,f=fn:=⟨f.toNat,by omega⟩;have HF:=oH (show∀wn,aa All wr wn→wn.cell? ⟨w.heap.size,0,none⟩=some (.int .i64 b.params)∧wn.cell? ⟨w.heap.size,1,none⟩=some (.int .i64 b.vars)∧wn.cell? ⟨w.heap.size,2,none⟩=some (.slice B1 b.Ng.length d1)∧wn.cell? ⟨w.heap.size+1,0,none⟩=some (.int .u8 x.kind)∧wn.cell? ⟨w.heap.size+1,1,none⟩=some (.int .u8 x.op)∧wn.cell? ⟨w.heap.size+1,2,none⟩=some (.int .i64 x.dst)∧wn.cell? ⟨w.heap.size+1,3,none⟩=some (.int .i64 x.ref)∧wn.cell? ⟨w.heap.size+1,4,none⟩=some (.int .i64 x.Ni)∧wn.cell? ⟨w.heap.size+1,5,none⟩=some (.slice (some ⟨vb,vo,none⟩) x.args.length uc)∧wn.cell? ⟨w.heap.size+1,6,none⟩=some (.slice (some ⟨fb,fo,none⟩) x.Nh.length vc)∧wn.cell? ⟨w.heap.size+1,7,none⟩=some (.int .i64 x.num)∧wn.cell? ⟨w.heap.size+1,8,none⟩=some (.int .i64 x.Nj)∧wn.cell? ⟨vb,vo+k,none⟩=some (.int .i64 v)∧wn.cell? ⟨fb,fo+k,none⟩=some (.int .i64 fn) from fun wn R=>
  ⟨(J.2.2.1.kept (o.trans R) trivial).cell 0,(J.2.2.1.kept (o.trans R) trivial).cell 1,(J.2.2.1.kept (o.trans R) trivial).cell 2,(J.2.2.2.1.kept (o.trans R) trivial).cell 0,(J.2.2.2.1.kept (o.trans R) trivial).cell 1,(J.2.2.2.1.kept (o.trans R) trivial).cell 2,(J.2.2.2.1.kept (o.trans R) trivial).cell 3,(J.2.2.2.1.kept (o.trans R) trivial).cell 4,(J.2.2.2.1.kept (o.trans R) trivial).cell 5,(J.2.2.2.1.kept (o.trans R) trivial).cell 6,(J.2.2.2.1.kept (o.trans R) trivial).cell 7,(J.2.2.2.1.kept (o.trans R) trivial).cell 8,R.cell trivial d8,R.cell trivial d9⟩)
 have HC:=oH (fun wn (R:aa All wr wn)=>AW S T _ _ b v fn wn (J.2.2.2.2.1 wn (Z.trans R)) (J.2.2.2.2.2.1 wn (Z.trans R)) HG.out (by omega) (by omega));have HA:=J5 o Z C hv hf;clear o Z C hv hf e9 d8 h0 h3 d9 e0;go_wp2_with fail;by_cases he:jl b v fn;·(
 rw[av he] at HC;have HE:=oH he;clear he;refine R0 14 wr (fun i=>if i=12 then some (·=.bool true) else none) ?_;refine O4 HF.out ?_;iterate 2 refine O0 ?_
 refine O4 HF.out ?_;iterate 2 refine O0 ?_
 refine O4 HF.out ?_;refine O0 ?_;refine O4 HF.out ?_;iterate 2 refine O0 ?_
 refine O4 HF.out ?_;refine O5 (v:=.bool true) (fun wn R hp=>⟨_,_,by(skip;go_simp<;>with_reducible rfl),((HC.out wn R).mono fun e w' h=>⟨h.1,R.trans h.2,fun _ h=>by cases h⟩)⟩) ?_;refine O0 ?_;refine aG fun wt b3 hF=>?_;have HT:=oH b3;clear b3 hF;simp only[dK];go_wp2_with fail;go_roundg (x.args.length-(k+1))
 ·refine⟨k+1,by omega,rfl,by go_num,HA.1.trans HT.out,fun m v' f' hm h1 h2=>?_⟩
  by_cases e:m=k;·subst e;rw[HA.2.2.2.1] at h1;rw[HA.2.2.2.2] at h2;cases h1;cases h2;rw[dP];exact HE.out
  exact HA.2.2.1 m v' f' (by omega) h1 h2
 omega)
 rw[au he] at HC;have HE:=oH he;clear he;refine R0 14 wr (fun i=>if i=12 then some (·=.bool false) else none) ?_;refine O4 HF.out ?_;iterate 2 refine O0 ?_
 refine O4 HF.out ?_;iterate 2 refine O0 ?_
 refine O4 HF.out ?_;refine O0 ?_;refine O4 HF.out ?_;iterate 2 refine O0 ?_
 refine O4 HF.out ?_;refine O5 (v:=.bool false) (fun wn R hp=>⟨_,_,by(skip;go_simp<;>with_reducible rfl),((HC.out wn R).mono fun e w' h=>⟨h.1,R.trans h.2,fun _ h=>by cases h⟩)⟩) ?_;refine O0 ?_;refine aG fun wt b3 hF=>?_;have HT:=oH b3;clear b3 hF;simp only[dK];have HN:=oH (Cl HP.out HA.2.2.2.1 HA.2.2.2.2 (by rw[dP];exact HE.out));go_wp2_with fail;go_ret;exact⟨by rw[HN.out]<;>rfl,HA.2.1.trans HT.out⟩)
 obtain rfl:k=x.args.length:=by omega
 have HY:=oH (GC HP.out fun m v f h1 h2=>C m v f (lS.1 h1).1 h1 h2);have HK:=oH Z;clear o Z C;go_wp2_with fail;go_ret;exact⟨by rw[HY.out]<;>rfl,HK.out⟩
end
end Go.Proofs.YtceloincoomjeaaGreatDoor
