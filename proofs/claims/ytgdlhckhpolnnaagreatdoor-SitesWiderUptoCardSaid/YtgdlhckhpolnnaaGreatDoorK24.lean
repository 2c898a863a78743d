/- Part 25 of the proof (its last part says what is proved). No condition. -/
import Derived.Test.YtgdlhckhpolnnaaGreatDoorK23
namespace Go.Proofs.YtgdlhckhpolnnaaGreatDoor
set_option maxRecDepth 100000
set_option maxHeartbeats 8000000
open Go.RowKit Go.Proofs.Tryz
section
open Go.RowKit Go.Shelf
attribute [local go_sem] Oper.semAt_some
theorem GK (n:Nat):aN n (AM fun v=>if v<0 then(-1,-1) else(0,0))=aN n fun _=>0:=ex fun j _=>by unfold AM;split<;>rfl
structure rN (w:World)(np nv:Nat)(B1:Option Addr)(n d1:Nat)(f:Nat→Int×Int)(W:World):Prop where
 kept:aa All w W
 size:w.heap.size+5≤W.heap.size
 body:al W w.heap.size 42 #[.int .i64 np,.int .i64 nv,.slice B1 n d1]
 r1:al W (w.heap.size+1) 84 #[.slice none 0 0]
 r2:al W (w.heap.size+1+1) 4 #[.bool false]
 tab:al W (w.heap.size+1+1+1) 165 (aN (nv*2) (AM f))
 out:al W (w.heap.size+1+1+1+1) 84 #[.slice (some ⟨w.heap.size+1+1+1,0,none⟩) nv nv]
section
variable {w W W':World} {np nv n d1:Nat} {B1:Option Addr} {f g:Nat→Int×Int}
theorem rN.keep (h:rN w np nv B1 n d1 f W)(k:aa (fun b=>b<w.heap.size+5) W W'):rN w np nv B1 n d1 f W':=
 ⟨am (h.kept.all.trans (k.mono fun b (j:b<w.heap.size)=>by omega)),fR h.size k.size,h.body.kept k (by omega),h.r1.kept k (by omega),h.r2.kept k (by omega),h.tab.kept k (by omega),h.out.kept k (by omega)⟩
theorem rN.congr (h:rN w np nv B1 n d1 f W)(e:∀v,v<nv→f v=g v):rN w np nv B1 n d1 g W:=by refine⟨h.kept,h.size,h.body,h.r1,h.r2,?_,h.out⟩;rw[ex (g:=AM f) fun j o=>by unfold AM;rw[e (j/2) (by omega)]];exact h.tab
theorem rN.set (h:rN w np nv B1 n d1 f W){v:Nat}(j:∀u,u≠v→g u=f u){x y:Int}(o:g v=(x,y)):rN w np nv B1 n d1 g ((W.setCell ⟨w.heap.size+1+1+1,v*2,none⟩ (.int .i64 x)).setCell ⟨w.heap.size+1+1+1,v*2+1,none⟩ (.int .i64 y)):=by
 refine⟨(h.kept.setCell (.inr (by simp;omega)) _).setCell (.inr (by simp;omega)) _,by simpa using h.size,?_,?_,?_,?_,?_⟩;·exact(h.body.far (by simp;omega) _).far (by simp;omega) _
 ·exact(h.r1.far (by simp) _).far (by simp) _
 ·exact(h.r2.far (by simp) _).far (by simp) _
 ·rw[←JE (n:=nv) j,o]
  exact(h.tab.set _ _).set _ _
 exact(h.out.far (by simp) _).far (by simp) _
end
def ED (L:List (List bz))(w:World)(np nv:Nat)(B1:Option Addr)(n d1 N sz:Nat)(pre:List (EK L))(W:World):Prop:=
 rN w np nv B1 n d1 (fun v=>iV (pre.map Subtype.val) v) W∧al W N 3 #[.int .i64 (np+og ((pre.map Subtype.val).map fun t=>t.2.2):Nat)]∧sz≤W.heap.size∧w.heap.size+5≤N∧N<sz
theorem zV {L:List (List bz)}{w:World}{np nv n d1 N sz:Nat}{B1:Option Addr}(j:N<sz)(_:w.heap.size+5≤sz):OwnFrom sz (ED L w np nv B1 n d1 N sz):=by
 rintro s W W' row ⟨h1,o,C,I,J⟩ R hr;have k:aa (fun b=>b<sz) W W':=(aa.refl _ W).grown R fun k Y=>.inl fun h=>by have:=(hr k Y).1;have h:k<sz:=h;omega
 exact⟨h1.keep (k.mono fun b hb=>by omega),o.kept k j,fR C k.size,I,J⟩
def rM (L:List (List bz))(pre:List (EK L)):Prop:=∃j x,pre=j++[x]∧x.1.2.2.dst≠-1∧0≤(iV (j.map Subtype.val) x.1.2.2.dst).1
theorem wF {b:aw}(I:gY b){pre:List (EK b.Ng)}(h:rM b.Ng pre)(o:pre.map Subtype.val<+:(cd b.Ng).flatten):False:=by
 obtain⟨j,x,rfl,J,C⟩:=h;rw[ic] at o;rcases rA (j.map Subtype.val) x.1.2.2.dst with ⟨e,_⟩|⟨u,hu,he,_⟩;·rw[e] at C;exact absurd C (by decide)
 exact As I o hu J he
def Ik (b:aw)(w:World)(e:Ending)(w':World):Prop:=∃u,e=.returned (.tuple #[u,.bool true])∧aa All w w'∧qay (fun g=>w.heap.size≤g) w' u (jp b)
theorem Fs {b:aw}(j:b.Ng.length≤64)(hlen:b.Ng.flatten.length≤4096)(v:Int):aV (iV (cd b.Ng).flatten v).1∧aV (iV (cd b.Ng).flatten v).2:=by
 unfold aV;rcases rA (cd b.Ng).flatten v with ⟨e,_⟩|⟨t,o,_,e⟩;·rw[e];exact⟨by decide,by decide⟩
 obtain⟨l,h1,C⟩:=nR.1 o;have I:=(lS.1 h1).1;have J:=(lS.1 C).1;have R:l.length≤b.Ng.flatten.length:=by rw[List.length_flatten];exact qz (dr.2 ⟨l,mG h1,rfl⟩)
 rw[e];simp only;omega
theorem Fu {b:aw}(J:gY b){nv:Nat}(C:b.vars=nv)(hlen:b.Ng.flatten.length≤4096)(R:nv≤4102){S:Nat→Prop}{w:World}{g:Nat}{t:TypeId}(h:al w g t (aN (nv*2) (AM fun v=>iV (cd b.Ng).flatten v)))(Y:S g):qay S w (.slice (some ⟨g,0,none⟩) nv nv) (jp b):=by
 have hl:(jp b).length=nv:=by simp[jp,C]
 refine⟨some ⟨g,0,none⟩,nv,by rw[hl],by omega,by unfold maxLen;omega,by omega,fun i x o=>?_⟩;have hi:i<nv:=by rw[←hl];exact(lS.1 o).1
 unfold jp at o;rw[cL,ln (by omega)] at o;cases o;have hw:=Fs J.blk.2 hlen i;refine⟨g,0,[.int .i64 (iV (cd b.Ng).flatten i).1,.int .i64 (iV (cd b.Ng).flatten i).2],rfl,Y,rfl,fun j c I=>?_,rfl,hw⟩;rcases j with _|_|j
 ·cases I
  rw[dj,cN,h.cell,bI (by omega),GI]
 ·cases I
  rw[cN,h.cell,bI (by omega),GJ]
 simp at I
theorem Ed (S:Nat→Prop)(bv:Value)(b:aw)(w:World)(hb:bW S w bv b.Ng)(hG:gY b)(hlen:b.Ng.flatten.length≤4096):
 Calls prog 107 #[.agg #[.int .i64 b.params,.int .i64 b.vars,bv]] w (Ik b w):=by
 have d9:=vJ hb;obtain⟨B1,d1,rfl,m5,m6,m7,_⟩:=hb;obtain⟨A,F,hI⟩:=vw d9;unfold maxLen at m6;have e9:=hG.blk.2;have b8:=hG.num;have e0:=hG.par;have h0:og b.Ng.flatten≤b.Ng.flatten.length:=List.length_filter_le _ _;obtain⟨np,b9⟩:∃np:Nat,b.params=np:=⟨b.params.toNat,by omega⟩;obtain⟨nv,c4⟩:∃nv:Nat,b.vars=nv:=⟨b.vars.toNat,by omega⟩;have j6:np≤nv:=by omega
 have h3:nv≤4102:=by omega
 have j7:np≤6:=by omega
 rw[b9,c4];have HG:=J5 hG hI b9 c4 b8;clear hG hI b9 c4 b8 d9 h0 e0 m5 m6 m7;have t1:decide ((np:Int)<0)=false:=by simp
 have t2:decide ((np:Int)>(nv:Int))=false:=by simp;omega
 have h6:decide (nv<np)=false:=by simp;omega
 have t3:decide ((nv:Int)>4102)=false:=by simp;omega
 have h7:decide (4102<nv)=false:=by simp;omega
 have h8:=fun w=>Gi nv (by omega) w;refine(callsIn_wide (n:=8)).1 ?_;refine callsIn_of_wp_marks func107 rfl trivial ?_ rfl;simp only[ntmps107,List.size_toArray,kI,List.length_nil,Nat.reduceAdd,Nat.reduceSub,Array.replicate_succ,Array.replicate_zero,List.push_toArray,List.append_toArray,mF,List.cons_append];rw[wpIn_wide];go_wp2_with fail;clear t1 t2 h6 t3 h7 h8;go_loopg [29] nv (fun g s wr=>∃k:Nat,k≤nv∧g=nv-k∧s=.int .i64 k∧rN w np nv B1 b.Ng.length d1 (fun v=>if v<k then(-1,-1) else(0,0)) wr)
 case atStart=>refine⟨0,by omega,by omega,rfl,((((kR.alloc _).alloc _).alloc _).alloc _).alloc _,by simp,((((al.new _ _ _).alloc _).alloc _).alloc _).alloc _,(((ac (by simp)).alloc _).alloc _).alloc _,((ac (by simp)).alloc _).alloc _,?_,ac (by simp)⟩;rw[GK];exact(ac (by simp)).alloc _
 obtain⟨k,hk,rfl,rfl,R⟩:=hrel;have c0:=R.out.cl 0;by_cases j8:k<nv;·(
 have c1:=R.tab.cell (k*2);have c2:=R.tab.cell (k*2+1);have f1:=R.tab.free (k*2);have f2:=R.tab.free (k*2+1);rw[bI (by omega)] at c1 c2;have a1:=R.set (g:=fun v=>if v<k+1 then(-1,-1) else(0,0)) (v:=k) (fun u hu=>by
  by_cases h:u<k;·rw[ap h,ap (by omega)]
  rw[ae h,ae (by omega)]) (x:= -1) (y:= -1) (ap (by omega))
 have HN:=oH a1;clear R a1;go_wp2_with fail;go_roundg (nv-(k+1));·exact⟨k+1,by omega,rfl,by go_num,HN.out⟩
 omega)
 have e:nv=k:=by omega
 subst e;obtain⟨W5,b4⟩:=eQ (wr.alloc (.cells #[.int .i64 np] 3));have c5:=yf b4;have e3:=yv b4;have a6:=R.keep c5.all;have g0:=R.body.cl 0;have g1:=R.body.cl 1;have g2:=R.body.cl 2;have b0:=a6.body.cl 0;have b1:=a6.body.cl 1;have b2:=a6.body.cl 2;have HW:=J4 b4 c5 e3 a6;have j9:=R.size;clear b4 c5 e3 a6 R;go_upto_region 10 with fail;rw[←HW.1];clear g0 g1 g2;go_wp2_with fail;refine(zk _ _ _ _ _ _).mono ?_;rintro e w' ⟨rfl,rfl⟩;obtain⟨wl,b5⟩:=eQ (W5.alloc (.cells #[.int .i64 np,.int .i64 nv,.slice B1 b.Ng.length d1] 42));have b6:=yf b5;have e4:=yv b5;have c6:=HW.2.2.2.keep b6.all;have e5:=HW.2.2.1.kept b6 trivial;have e6:iJ (fun g=>g<w.heap.size) w wl:=(iJ.refl _ _).kept c6.kept.all;have j4:=HW.2.2.1.lt;have j5:=b6.size;rw[←b5];have HL:=J4 c6 e5 e4 e6;clear b5 c6 e5 b6 e4 b0 b1 b2 e6;go_wp2_with fail
 refine wpIn_wide.1 (lW (F:=Fence.wide) (n:=8) rfl (by omega) (gf:=174) (lb:=#[.pointer (some ⟨W5.heap.size,0,none⟩)]) rfl trivial (enters_of func174 (by kernel_rfl) rfl)
  (tM 7 (by omega) (fun g=>g<w.heap.size) w np nv B1 d1 b.Ng A F HG.2.1 e9 _ wl HL.2.2.2 HL.2.2.1) BY (BX _) (fun W o h=>h.kept (kR.alloc _)) (Below.refl _ _) (fun _=>rfl)
  (ED b.Ng w np nv B1 b.Ng.length d1 wr.heap.size wl.heap.size) (fun c pre _=>c=.ret∧rM b.Ng pre) (zV (by omega) (by omega)) (fun c s W W' row h _ _=>h) (fun pre W h=>h.2.2.1) ⟨?_,HL.2.1,cf _,by omega,by omega⟩
  7 8 165 56 (fun x=>#[.int .i64 (x.1.1:Nat),.int .i64 (x.1.2.1:Nat)]) (fun x=>#[.int .u8 x.1.2.2.kind,.int .u8 x.1.2.2.op,.int .i64 x.1.2.2.dst,.int .i64 x.1.2.2.ref,.int .i64 x.1.2.2.Ni,A x.1.1 x.1.2.1,F x.1.1 x.1.2.1,.int .i64 x.1.2.2.num,.int .i64 x.1.2.2.Nj]) ?assign ?body ?done ?stop)
 case assign=>(intro l x W K hK;obtain⟨⟨i,k,x⟩,row,C,hx⟩:=x;obtain⟨⟨aA,cA,eA,_⟩,⟨aF,cF,eF,_⟩,_⟩:=HG.2.1.ints i row C k x hx;dsimp only at hK⊢;rw[eA,eF] at hK⊢;simp only[List.zip_toArray,List.zip_cons_cons,List.zip_nil_right,List.foldl_toArray',List.size_toArray,kI,List.length_nil,List.foldl_cons,List.foldl_nil,ga] at hK;gi_wp2;exact hK)
 case body=>(
 rintro l pre x b1 b2 W k0 k1 k2 c7 c8 ⟨I,Y,hs,h4,h5⟩ h9;obtain⟨⟨i,k,x⟩,row,C,hx⟩:=x;obtain⟨⟨aA,cA,eA,_⟩,⟨aF,cF,eF,_⟩,_⟩:=HG.2.1.ints i row C k x hx;dsimp only at c7 c8⊢;rw[eA,eF] at c8⊢;have a7:((pre.map Subtype.val)++[((i,k,x):iL)])=(pre++[(⟨(i,k,x),row,C,hx⟩:EK b.Ng)]).map Subtype.val:=by rw[ic];rfl
 have x0:=c7.cl 0;have x1:=c7.cl 1;have y2:=c8.cl 2;have z0:=I.body.cl 0;have z1:=I.body.cl 1;have z4:=I.out.cl 0;have zn:=Y.cl 0;have fn:=Y.free 0;by_cases hd:x.dst= -1;·(
 have j:=J4 I Y hs a7;have td:(x.dst== -1)=true:=by rw[cy];exact hd
 clear I Y hs a7;gi_wp2;refine⟨KeepsFrom.refl _ _,fun h=>h,?_,?_,j.2.2.1,h4,h5⟩
 ·rw[←j.2.2.2];have e:(fun v:Nat=>iV (pre.map Subtype.val++[((i,k,x):iL)]) v)=fun v:Nat=>iV (pre.map Subtype.val) v:=by funext v;exact BO (by show x.dst≠_;omega)
  rw[e];exact j.1
 rw[←j.2.2.2,ic,xY];have e:og ([((i,k,x):iL)].map fun t=>t.2.2)=0:=by rw[List.map_cons,List.map_nil,xZ,ap hd]
 rw[e,dj];exact j.2.1)
 obtain⟨h1,h2⟩:=(HG.1.dst row (mG C) x (mG hx)).resolve_left hd;rw[HG.2.2.1] at h1;rw[HG.2.2.2.1] at h2;obtain⟨v,hv⟩:∃v:Nat,x.dst=v:=⟨x.dst.toNat,by omega⟩;rw[hv] at y2 h1 h2;have c9:=I.tab.cell (v*2);have d7:=I.tab.cell (v*2+1);have k5:=I.tab.free (v*2);have k6:=I.tab.free (v*2+1);rw[bI (by omega),GI] at c9;rw[bI (by omega),GJ] at d7;have a8:=I.set (g:=fun u:Nat=>iV (pre.map Subtype.val++[((i,k,x):iL)]) u) (v:=v) (fun u hu=>BO (by show x.dst≠_;omega)) (x:=i) (y:=k);have b7:og ((pre.map Subtype.val++[((i,k,x):iL)]).map fun t=>t.2.2)=og ((pre.map Subtype.val).map fun t=>t.2.2)+1:=by rw[ic,xY,List.map_cons,List.map_nil,xZ,ae hd]
 obtain⟨m,hm⟩:=eR (og ((pre.map Subtype.val).map fun t=>t.2.2));rw[hm] at zn Y b7;have k7:m≤5000:=by(
 have e1:m≤((pre.map Subtype.val).map fun t=>t.2.2).length:=by rw[←hm];exact List.length_filter_le _ _
 have e2:=congrArg List.length (vt b.Ng);rw[ce] at e2;rw[ce,ce] at e1;omega)
 have k8:v<nv:=by omega
 rcases rA (pre.map Subtype.val) (v:Int) with ⟨e,e7⟩|⟨u,hu,he,e⟩;·(
 have b3:=a8 (by show iV _ _=_;rw[←hv];exact Ft fun u hu=>by rw[show((i,k,x):iL).2.2.dst=(v:Int) from hv];exact e7 u hu);have j:=J5 b3 Y hs a7 b7;rw[e] at c9 d7;have td:((v:Int)== -1)=false:=by rw[bE];omega
 have te:decide ((v:Int)<(np:Int))=false:=by simp;omega
 have j0:decide (v<np)=false:=by simp;omega
 have tf:decide ((v:Int)≥(nv:Int))=false:=by simp;omega
 have j1:decide (nv≤v)=false:=by simp;omega
 clear I Y hs a7 a8 b3 hv hd e7 e h1 h2 b7 hm;gi_wp2;refine⟨(((KeepsOthers.setCell _ _ _).trans (KeepsOthers.setCell _ _ _)).trans (KeepsOthers.setCell _ _ _)).from _,fun h=>h.kept (((aa.refl _ W).setCell (p:=⟨w.heap.size+1+1+1,_,none⟩) (.inl (by simp;omega)) _).setCell (p:=⟨w.heap.size+1+1+1,_,none⟩) (.inl (by simp;omega)) _|>.setCell (p:=⟨wr.heap.size,0,none⟩) (.inl (by simp;omega)) _),?_,?_,by simpa using j.2.2.1,h4,h5⟩
 ·rw[←j.2.2.2.1]
  exact j.1.keep (kR.setCell (p:=⟨wr.heap.size,0,none⟩) (.inl (by simp;omega)) _)
 rw[←j.2.2.2.1,j.2.2.2.2];have:=((j.2.1.far (p:=⟨w.heap.size+1+1+1,v*2,none⟩) (by simp;omega) (.int .i64 i)).far (p:=⟨w.heap.size+1+1+1,v*2+1,none⟩) (by simp;omega) (.int .i64 k)).set 0 (.int .i64 (np+(m+1):Nat));simpa [Int.add_assoc] using this)
 have j:=J2 hs (show rM b.Ng (pre++[(⟨(i,k,x),row,C,hx⟩:EK b.Ng)]) from⟨pre,_,rfl,hd,by show 0≤(iV _ x.dst).1;rw[hv,e];simp⟩);rw[e] at c9 d7;have td:((v:Int)== -1)=false:=by rw[bE];omega
 have te:decide ((v:Int)<(np:Int))=false:=by simp;omega
 have j0:decide (v<np)=false:=by simp;omega
 have tf:decide ((v:Int)≥(nv:Int))=false:=by simp;omega
 have j1:decide (nv≤v)=false:=by simp;omega
 have tu:decide ((u.1:Int)≥0)=true:=by simp
 have r1:=I.r1.cell 0;have r2:=I.r2.cell 0;have j2:=I.r1.free 0;have j3:=I.r2.free 0;simp only[gc] at r1 r2;clear I Y hs a7 a8 hv hd hu he e h1 h2 b7 hm;gi_wp2;exact⟨((KeepsOthers.setCell _ _ _).trans (KeepsOthers.setCell _ _ _)).from _,rfl,j.2⟩)
 case done=>(
 rintro D xs W I hS ⟨J,Y,hs,h4,h5⟩ hK;have e8:(xs.map Subtype.val).map (fun t=>t.2.2)=b.Ng.flatten:=by rw[hS];exact vt _
 rw[e8] at Y;rw[show np+og b.Ng.flatten=nv by have:=HG.2.2.2.2;have:=HG.2.2.1;have:=HG.2.2.2.1;omega] at Y;have zn:=Y.cell 0;have z1:=J.body.cell 1;have z4:=J.out.cell 0;have r1:=J.r1.cell 0;have r2:=J.r2.cell 0;have j2:=J.r1.free 0;have j3:=J.r2.free 0;simp only[gc] at zn z1 z4 r1 r2;have j:=J3 J hS hK;clear J hS hK Y;go_wp2;have d8:=((KeepsOthers.setCell W ⟨w.heap.size+1,0,none⟩ (.slice (some ⟨w.heap.size+1+1+1,0,none⟩) nv nv)).trans (KeepsOthers.setCell _ ⟨w.heap.size+1+1,0,none⟩ (.bool true))).same D _ j.2.2 rfl;refine⟨by simp,.inl ⟨_,_,rfl,run_takeDeferred d8,?_⟩⟩;have q1:=((j.1.r1.set 0 (.slice (some ⟨w.heap.size+1+1+1,0,none⟩) nv nv)).far (p:=⟨w.heap.size+1+1,0,none⟩) (by simp) (.bool true)).cell 0;have q2:=((j.1.r2.far (p:=⟨w.heap.size+1,0,none⟩) (by simp) (.slice (some ⟨w.heap.size+1+1+1,0,none⟩) nv nv)).set 0 (.bool true)).cell 0;have q3:=cell_kept q1 (grownBy_putObj' _ D (.deferred none)) (fun r e=>by cases e;exact⟨_,d8,rfl⟩);have q4:=cell_kept q2 (grownBy_putObj' _ D (.deferred none)) (fun r e=>by cases e;exact⟨_,d8,rfl⟩)
 have k3:aa (fun g=>g≠w.heap.size+1∧g≠w.heap.size+1+1∧g<wl.heap.size) W (((W.setCell ⟨w.heap.size+1,0,none⟩ (.slice (some ⟨w.heap.size+1+1+1,0,none⟩) nv nv)).setCell ⟨w.heap.size+1+1,0,none⟩ (.bool true)).putObj D (.deferred none)):=
  aa.put (((aa.refl _ W).setCell (p:=⟨w.heap.size+1,0,none⟩) (.inl (by simp)) _).setCell (p:=⟨w.heap.size+1+1,0,none⟩) (.inl (by simp)) _) (.inl (by simp;omega)) _
 have k4:=am (j.1.kept.all.trans (k3.mono fun b (hb:b<w.heap.size)=>by refine⟨?_,?_,?_⟩<;>omega));have tb:=j.1.tab.kept k3 ⟨by omega,by omega,by omega⟩;rw[j.2.1] at tb;refine⟨.tuple #[.slice (some ⟨w.heap.size+1+1+1,0,none⟩) nv nv,.bool true],?_,_,rfl,k4,?_⟩
 ·simp at q3 q4
  simp[results,Tryz.f107,go_sem,q3,q4]
 exact Fu HG.1 HG.2.2.2.1 hlen h3 tb (by omega))
 case stop=>rintro D c pre W I hS ⟨_,h⟩ hK;exact(wF HG.1 h hS).elim
 exact HL.1.congr fun v hv=>ap hv
end
theorem xV {b:aw}(o:gY b){v:Nat}(I:(v:Int)<b.vars):((v:Int)<b.params∧iV (cd b.Ng).flatten v=(-1,-1))∨(¬(v:Int)<b.params∧∃i k:Nat,jF b v i k∧iV (cd b.Ng).flatten v=((i:Int),(k:Int))):=by
 rcases rA (cd b.Ng).flatten (v:Int) with ⟨e,J⟩|⟨u,hu,he,e⟩
 ·by_cases R:(v:Int)<b.params;·exact .inl ⟨R,e⟩
  obtain⟨i,k,j⟩:=o.all v (by omega) I;obtain⟨x,Y,j⟩:=qr.1 j;exact absurd j (J _ Y)
 obtain⟨l,h1,C⟩:=nR.1 hu;have j:=o.dst l (mG h1) u.2.2 (mG C);refine .inr ⟨by omega,u.1,u.2.1,⟨l,u.2.2,h1,C,he⟩,e⟩
def rJ (S:Nat→Prop)(w:World)(R:Nat)(b:aw)(t:Nat→Int):Prop:=∃bv j c3 o C I J,al w R 198 #[.int .i64 b.params,.int .i64 b.vars,bv,.slice j b.Ng.length c3,.slice o b.Ng.length C,.slice I b.vars.toNat J]∧
 aK S w (.slice j b.Ng.length c3) (lV b.Ng.length t)∧Rows S w (.slice o b.Ng.length C) (gF (bM b))∧qay S w (.slice I b.vars.toNat J) (jp b)
theorem rJ.keep {S R:Nat→Prop}{w w':World}{j:Nat}{b:aw}{t:Nat→Int}(h:rJ S w j b t)(k:aa R w w')(o:∀g,S g→R g)(C:R j):rJ S w' j b t:=by obtain⟨bv,I,c3,J,Y,A5,c5,h1,h2,h3,h4⟩:=h;exact⟨bv,I,c3,J,Y,A5,c5,h1.kept k C,ah.keep (k.mono o) h2,aq.keep (k.mono o) h3,bu.keep (k.mono o) h4⟩
theorem uR {b:aw}{v:Nat}(j:(v:Int)<b.vars):(jp b)[v]? =some (iV (cd b.Ng).flatten v):=by unfold jp;rw[cL,ln (by omega)];rfl
theorem vU (S:Nat→Prop)(kb:Nat)(b:aw)(pl:Nat→Nat)(t:Nat→Int)(v blk:Nat)(w:World)(hC:rJ S w kb b t)(hG:gY b)(T:mz (bM b) t pl)(hv:(v:Int)<b.vars)(C:blk<b.Ng.length):
 Calls prog 178 #[.pointer (some ⟨kb,0,none⟩),.int .i64 v,.int .i64 blk] w fun e w'=>e=.returned (.bool (pB (jl b v blk)))∧aa All w w':=by
 have hlen:=cS b;have I:=fun wn (C:aa All w wn)=>hC.keep C (fun _ _=>trivial) trivial;obtain⟨bv,A3,c3,A4,c4,A5,c5,h1,h2,h3,h4⟩:=hC;obtain⟨db,dO,cs,rfl,_,_,a1,rfl,_⟩:=aZ h4 (uR hv);have J:=xV hG hv;obtain⟨⟨d0,d1⟩,R⟩:∃d,iV (cd b.Ng).flatten v=d:=⟨_,rfl⟩;rw[R] at J a1;simp only[Prod.mk.injEq] at J;have q0:=a1 0 _ rfl;have q1:=a1 1 _ rfl;rw[dj] at q0;have k3:=h1.cl 3;have k5:=h1.cl 5;obtain⟨nv,a8⟩:∃nv:Nat,b.vars=nv:=⟨b.vars.toNat,by omega⟩;have b1:v<nv:=by omega
 rw[a8,dP] at k5;have b0:=C;obtain⟨W0,a6⟩:=eQ (w.alloc (.cells #[.int .i64 d0,.int .i64 d1] 165));have a7:=yf a6;have bD:=yv a6;have HF:=oH (show∀wn,aa All W0 wn→wn.cell? ⟨w.heap.size,0,none⟩=some (.int .i64 d0)∧wn.cell? ⟨w.heap.size,1,none⟩=some (.int .i64 d1)∧wn.cell? ⟨kb,3,none⟩=some (.slice A3 b.Ng.length c3) from fun wn C=>⟨(bD.kept C trivial).cell 0,(bD.kept C trivial).cell 1,(h1.kept (a7.trans C) trivial).cell 3⟩);have HG:=J3 hG T h2;have HW:=J4 a6 a7 R I;clear hG T h1 h2 h3 h4 a1 a6 a7 bD R I hlen;go_enter func178,ntmps178;go_upto_region 2 with fail;rw[←HW.1];clear k3 k5 q0 q1;rcases J with ⟨hp,rfl,rfl⟩|⟨hp,i,j,hd,rfl,rfl⟩
 ·have HY:=oH (show jl b v blk from .inl hp);clear hp;refine R0 14 W0 (fun _=>none) ?_;iterate 4 first|refine O4 HF.out ?_|refine O0 ?_
  iterate 8 refine O2 ?_
  iterate 2 refine O0 ?_
  refine aG fun wt Y hF=>?_;have HT:=oH Y;clear Y hF;simp only[dK];go_wp2_with fail;go_ret;exact⟨by rw[av HY.out]<;>rfl,HW.2.1.trans HT.out⟩
 have he:=kC (qs (blk:=blk) HG.1 (by omega) hp hd);obtain⟨q,hq⟩:=eR (pB (jl b v blk));have o:=fun wn (C:aa All W0 wn)=>uk S (bM b) (.slice A3 b.Ng.length c3) t pl i blk wn (by rw[cS];exact ah.keep (HW.2.1.trans C).all HG.2.2) HG.2.1 (by rw[cS];have:=HG.1.blk.2;omega) (by rw[cS];exact b0);rw[←he,hq] at o;have HC:=J2 o hq;clear he o hq hd hp;refine R0 14 W0 (fun i=>if i=11 then some (·=.bool q) else none) ?_;iterate 11 first|refine O4 HF.out ?_|refine O0 ?_
 refine O5 (v:=.bool q) (fun wn C hp=>⟨_,_,by(skip;go_simp<;>with_reducible rfl),((HC.1 wn C).mono fun e w' h=>⟨h.1,C.trans h.2,fun _ h=>by cases h⟩)⟩) ?_;iterate 2 refine O0 ?_
 refine aG fun wt Y hF=>?_;have HT:=oH Y;clear Y hF;simp only[dK];go_wp2_with fail;go_ret;exact⟨by rw[HC.2]<;>rfl,HW.2.1.trans HT.out⟩
theorem Br (S:Nat→Prop)(kb:Nat)(b:aw)(pl:Nat→Nat)(t:Nat→Int)(v blk n:Nat)(w:World)(hC:rJ S w kb b t)(hG:gY b)(T:mz (bM b) t pl)(hv:(v:Int)<b.vars)(hk:blk<b.Ng.length):
 Calls prog 110 #[.pointer (some ⟨kb,0,none⟩),.int .i64 v,.agg #[.int .i64 blk,.int .i64 n]] w fun e w'=>e=.returned (.bool (pB (iP b v blk n)))∧aa All w w':=by
 have hlen:=cS b;have o:=fun wn (hk:aa All w wn)=>hC.keep hk (fun _ _=>trivial) trivial;obtain⟨bv,A3,c3,A4,c4,A5,c5,h1,h2,h3,h4⟩:=hC;obtain⟨db,dO,cs,rfl,_,_,a6,rfl,_⟩:=aZ h4 (uR hv);have C:=xV hG hv;obtain⟨⟨d0,d1⟩,I⟩:∃d,iV (cd b.Ng).flatten v=d:=⟨_,rfl⟩;rw[I] at C a6;simp only[Prod.mk.injEq] at C;have q0:=a6 0 _ rfl;have q1:=a6 1 _ rfl;rw[dj] at q0;have k3:=h1.cl 3;have k5:=h1.cl 5;obtain⟨nv,b1⟩:∃nv:Nat,b.vars=nv:=⟨b.vars.toNat,by omega⟩;have b2:v<nv:=by omega
 rw[b1,dP] at k5;have b3:=hk;have kw:aa All w (w.alloc (.cells #[.int .i64 blk,.int .i64 n] 165)):=kR.alloc _;have q0:=kw.cell trivial q0;have q1:=kw.cell trivial q1;have k5:=kw.cell trivial k5;obtain⟨W0,J⟩:=eQ ((w.alloc (.cells #[.int .i64 blk,.int .i64 n] 165)).alloc (.cells #[.int .i64 d0,.int .i64 d1] 165));have b0:=zy J;have bA:=aA1 J;have bD:=zo J vI;have a0:=bA.cl 0;have a1:=bA.cl 1;have r0:=bD.cl 0;have r1:=bD.cl 1;have R:=vU S kb b pl t v blk W0 (o W0 b0) hG T (by omega) hk;have HG:=J3 hG R T;have HW:=J4 J b0 I o;clear hG T h1 h2 h3 h4 a6 J b0 bD bA I o hlen R;go_enter func110,ntmps110;go_upto_region 2 with fail;rw[←HW.1];clear k3 k5 q0 q1;rcases C with ⟨hp,rfl,rfl⟩|⟨hp,i,j,hd,rfl,rfl⟩
 ·have HY:=J2 (show jl b v blk from .inl hp) (show iP b v blk n from .inl hp);clear hp;have te:((-1:Int)==(blk:Int))=false:=by rw[bE];omega
  have hc:=HG.2.1;rw[av HY.1] at hc;have HC:=oH hc;clear hc;go_wp2_with fail;refine HC.out.mono ?_;rintro e w2 ⟨rfl,Y⟩;have HK:=oH Y;clear Y;go_wp2_with fail;go_ret;exact⟨by rw[av HY.2]<;>rfl,HW.2.1.trans HK.out⟩
 have ht:=tP (n:=n) (blk:=blk) HG.1 (by omega) hp hd;by_cases a7:i=blk
 ·have te:((i:Int)==(blk:Int))=true:=by rw[cy];omega
  rw[ap a7] at ht;have HT:=oH (kC ht);clear ht a7 hp hd;go_wp2_with fail;go_ret;refine⟨?_,HW.2.1⟩;rw[HT.out];by_cases a8:j<n;·rw[av a8];simp[a8]
  rw[au a8];simp[a8]
 have te:((i:Int)==(blk:Int))=false:=by rw[bE];omega
 rw[ae a7] at ht;have he:=qs (blk:=blk) HG.1 (by omega) hp hd;obtain⟨q,hq⟩:=eR (pB (jl b v blk));have hc:=HG.2.1;rw[hq] at hc;have HC:=J2 hc ((kC (ht.trans he.symm)).trans hq);clear ht he a7 hp hd hc hq;go_wp2_with fail;refine HC.1.mono ?_;rintro e w2 ⟨rfl,Y⟩;have HK:=oH Y;clear Y;go_wp2_with fail;go_ret;exact⟨by rw[HC.2]<;>rfl,HW.2.1.trans HK.out⟩
section
open Go
section
variable {P:Program} {ops:Array Oper} {md:Region.Mode} {S:Bool→World→Prop} {c:Nat} {T:List Tmp} {F:Tmp→Value→World→Prop} {L:Nat→Option (Value→Prop)} {D:Nat→Bool} {X:List PanicEntry→World→Prop}
def wv (P:Program)(ops:Array Oper)(S:Bool→World→Prop)(c:Nat)(T:List Tmp)(F:Tmp→Value→World→Prop)(X:List PanicEntry→World→Prop)(k:Nat)(o:Oper)(j:Option (Value→Prop))(d:Bool)(a:Act)(V:Value→Prop):Prop:=
 (Region.wanted o (yielded ops a.tmps)=true∧j=none∧d=false∧k≠c∧∃v,V=(·=v)∧∀b,Iq P ops (S b) T F o a v)∨
 (Region.wanted o (yielded ops a.tmps)=true∧j=some V∧(∀w,S (k !=c) w→ij ops T F o a w→xG P (S true) T F X d V o w ((execOp a.eval o).run P w))∧∀w,S (k !=c) w→ij ops T F o a w→∃u w',V u∧om (S true) T F o w w' u)∨
 (Region.wanted o (yielded ops a.tmps)=false∧d=false∧k≠c∧V=(·=undef)∧∀d,o.dst=some d→d∉T)
theorem wv.unique {k:Nat}{o:Oper}{I:Option (Value→Prop)}{d b:Bool}{a:Act}{V Y:Value→Prop}(h:wv P ops S c T F X k o I d a V)(h':wv P ops S c T F X k o I d a Y){w:World}(hw:S b w)(hp:ij ops T F o a w):V=Y:=by
 rcases h with ⟨h1,J,_,_,v,rfl,h3⟩|⟨h1,J,_⟩|⟨h1,_,_,rfl,_⟩
 ·rcases h' with ⟨j,C,_,_,v',rfl,k3⟩|⟨j,C,_⟩|⟨j,_⟩
  ·have R:=(h3 b w hw hp).1;rw[(k3 b w hw hp).1] at R;iterate 2 injection R with R
   subst R;rfl
  ·rw[J] at C;cases C
  rw[h1] at j;cases j
 ·rcases h' with ⟨j,C,_⟩|⟨j,C,_⟩|⟨j,_⟩
  ·rw[J] at C;cases C
  ·rw[J] at C;injection C
  rw[h1] at j;cases j
 rcases h' with ⟨j,_⟩|⟨j,_⟩|⟨_,_,_,rfl,_⟩;·rw[h1] at j;cases j
 ·rw[h1] at j;cases j
 rfl
theorem wv.some_ {k:Nat}{o:Oper}{j:Option (Value→Prop)}{d b:Bool}{a:Act}{V:Value→Prop}(h:wv P ops S c T F X k o j d a V)(R:j≠none→b=(k !=c)){w:World}(hw:S b w)(J:ij ops T F o a w):∃u w',V u∧om (S (b||k==c)) T F o w w' u:=by
 rcases h with ⟨_,_,_,I,v,rfl,C⟩|⟨_,Y,_,C⟩|⟨_,_,I,rfl,C⟩
 ·rw[bE.2 I,Bool.or_false]
  exact⟨v,w,rfl,hw,fun _ _ _ h=>h,(C b w hw J).2⟩
 ·have e:=R (by rw[Y];simp)
  subst e;rw[show((k !=c)||k==c)=true by unfold bne;cases (k==c)<;>rfl];exact C w hw J
 rw[bE.2 I,Bool.or_false];exact⟨undef,w,rfl,hw,fun _ _ _ h=>h,fun d hd ht=>absurd ht (C d hd)⟩
theorem wv.put {k:Nat}{o:Oper}{j:Option (Value→Prop)}{b:Bool}{a:Act}{V:Value→Prop}{dst:Option Tmp}{u:Value}(C:∀cs b,o.op≠.select cs b)(h:∀d,dst=some d→d∉o.looksAt ops):
 wv P ops S c T F X k o j b (a.put dst u) V↔wv P ops S c T F X k o j b a V:=by
 unfold wv Iq;rw[execOp_put o C a dst u h,wanted_put o a dst u h];simp only[ij.put h]
theorem wv.single {k:Nat}{o:Oper}{j:Option (Value→Prop)}{d:Bool}{a:Act}{V:Value→Prop}(h:wv P ops S c T F X k o j d a V)(hl:j=none∨Region.wanted o (yielded ops a.tmps)=false){u I:Value}(hu:V u)(C:V I):u=I:=by
 rcases h with ⟨_,_,_,_,v,rfl,_⟩|⟨h1,J,_⟩|⟨_,_,_,rfl,_⟩;·exact hu.trans C.symm
 ·rcases hl with hl|hl
  ·rw[hl] at J;cases J
  rw[h1] at hl;cases hl
 exact hu.trans C.symm
def ph (c:Nat)(listed:Array Bool):Bool:=listed.getD c false
theorem US {listed:Array Bool}{i:Nat}(h:listed.getD i true=false):ph c (listed.setIfInBounds i true)=(ph c listed||i==c):=by
 unfold ph;by_cases e:i=c
 ·subst e
  have hi:i<listed.size:=by(
 rcases Nat.lt_or_ge i listed.size with h'|h';·exact h'
 simp[jK h'] at h)
  simp[hi]
 rw[getD_set_ne false e,bE.2 e,Bool.or_false]
def Wu (md:Region.Mode)(ops:Array Oper)(c n:Nat)(L:Nat→Option (Value→Prop)):Prop:=∀listed,HeadInv md ops n listed→∀k,k<n→k∈Region.ready md ops listed→L k≠none→ph c listed=(k !=c)
def UB (P:Program)(md:Region.Mode)(ops:Array Oper)(S:Bool→World→Prop)(c:Nat)(T:List Tmp)(F:Tmp→Value→World→Prop)(L:Nat→Option (Value→Prop))(D:Nat→Bool)(X:List PanicEntry→World→Prop)(n:Nat)(Q:Array Bool→Act→Prop):Nat→Bool→Array Bool→Act→Prop
 |0,dead,listed,a=>(∃w,S (ph c listed) w∧eU ops T F listed a w)→(∀j∈Region.ready md ops listed,n≤j)∧(dead=false→Q listed a)
 |fuel+1,dead,listed,a=>(∃w,S (ph c listed) w∧eU ops T F listed a w)→Region.ready md ops listed≠[]∧
  ∀i∈Region.ready md ops listed,i<n∧∀o,ops[i]? =some o→∃V,wv P ops S c T F X i o (L i) (D i) a V∧∀v,V v→UB P md ops S c T F L D X n Q fuel (dead||D i) (listed.setIfInBounds i true) (a.put o.dst v)
theorem Ag {n g:Nat}{Q:Array Bool→Act→Prop}{Q':Exit→Act→World→Prop}{J:Act→Prop}(hm:lk md ops T)(hR:∀listed,HeadInv md ops n listed→∀i,i<n→listed.getD i true=false→∀j∈Region.ready md ops listed,j<n)(hW:Wu md ops c n L)(hJ:∀(i:Nat) (o:Oper) (a:Act) (v:Value),ops[i]? =some o→J a→J (a.put o.dst v))(hX:∀a ch w,X ch w→J a→Q' (.panic ch) a w)
 (hQ:∀listed a w,S (ph c listed) w→eU ops T F listed a w→Q listed a→wpAny P md ops Q' g listed a w):∀(fuel:Nat) (listed:Array Bool) (a:Act) (w:World),HeadInv md ops n listed→J a→S (ph c listed) w→eU ops T F listed a w→
 UB P md ops S c T F L D X n Q fuel false listed a→wpAny P md ops Q' (fuel+g) listed a w
 |0,listed,a,w,_,_,hw,Y,h=>by rw[cN];exact hQ _ _ _ hw Y ((h ⟨w,hw,Y⟩).2 rfl)
 |fuel+1,listed,a,w,inv,h0,hw,Y,h=>by(
 rw[show fuel+1+g=(fuel+g)+1 by omega];refine⟨fun h1=>absurd h1 (h ⟨w,hw,Y⟩).1,fun i hi=>?_⟩;obtain⟨a6,o,R,_⟩:=mem_ready.1 hi;obtain⟨a1,a7⟩:=(h ⟨w,hw,Y⟩).2 i hi;obtain⟨V,hy,hn⟩:=a7 o R;have hp:=Y.pre hm hi R;have C:=US (c:=c) a6;have I:=inv.set hi a1;unfold wpOp;simp only[R];rcases hy with ⟨h1,_,hd,hk,v,rfl,h3⟩|⟨h1,hl,h3,_⟩|⟨h1,hd,hk,rfl,h3⟩;·rw[ap h1];left;obtain⟨hr,a8⟩:=h3 _ w hw hp;unfold Oper.wp;rw[hr];have:=hn v rfl;rw[hd] at this;rw[bE.2 hk,Bool.or_false] at C;exact Ag hm hR hW hJ hX hQ fuel _ _ w I (hJ _ _ _ _ R h0) (by rw[C];exact hw) (Y.next (S:=S (ph c listed)) R ⟨hw,fun _ _ _ h=>h,a8⟩) this
 ·(
 rw[ap h1];left;have hb:=hW listed inv i a1 hi (by rw[hl];simp);rw[hb] at hw;rw[hb,show((i !=c)||i==c)=true by unfold bne;cases (i==c)<;>rfl] at C;have hr:=h3 w hw hp;unfold Oper.wp;generalize (execOp a.eval o).run P w=r at hr;cases r with
 |ok nx w'=>
  cases nx<;>simp only[xG] at hr<;>simp only[Oper.upon]
  case value u=>(have:=hn u hr.2.1;rw[hr.1] at this;exact Ag hm hR hW hJ hX hQ fuel _ _ w' I (hJ _ _ _ _ R h0) (by rw[C];exact hr.2.2.1) (Y.next R hr.2.2) this)
  case skip=>(have:=hn undef hr.2.1;rw[hr.1] at this;exact Ag hm hR hW hJ hX hQ fuel _ _ w' I (hJ _ _ _ _ R h0) (by rw[C];exact hr.2.2.1) (Y.next R hr.2.2) this)
  case enter f args=>(
 refine hr.mono ?_;rintro e b0 (⟨hd,u,rfl,hv,hg⟩|⟨ch,rfl,hx⟩)
 ·have:=hn u hv
  rw[hd] at this;exact Ag hm hR hW hJ hX hQ fuel _ _ b0 I (hJ _ _ _ _ R h0) (by rw[C];exact hg.1) (Y.next R hg) this
 exact hX _ _ _ hx h0)
 |halt x w'=>simp only[xG] at hr)
 rw[ae (by rw[h1];exact oG)];have:=hn undef rfl;rw[hd] at this;rw[bE.2 hk,Bool.or_false] at C;exact Ag hm hR hW hJ hX hQ fuel _ _ w I (hJ _ _ _ _ R h0) (by rw[C];exact hw) (Y.next (S:=S (ph c listed)) R ⟨hw,fun _ _ _ h=>h,fun d hd ht=>absurd ht (h3 d hd)⟩) this)
theorem VB {n:Nat}{Q:Array Bool→Act→Prop}{i:Nat}{oi:Oper}{V:Value→Prop}(hm:lk md ops T)(hW:Wu md ops c n L)(hi:ops[i]? =some oi)(a8:∀(j:Nat) (o:Oper) cs b,ops[j]? =some o→o.op≠.select cs b)
 (hR:∀listed,HeadInv md ops n listed→∀i,i<n→listed.getD i true=false→∀j∈Region.ready md ops listed,j<n) (Y:i<n):
 ∀(fuel:Nat) (dead:Bool) (listed:Array Bool) (a:Act),HeadInv md ops n listed→
  (∀j oj,ops[j]? =some oj→j≠i→listed.getD j true=false→(∀e∈oj.after,Region.binds md e=true→e.on≠i)→oi.apart ops oj=true)→
  i∈Region.ready md ops listed→wv P ops S c T F X i oi (L i) (D i) a V→
  (∀v,V v→UB P md ops S c T F L D X n Q fuel (dead||D i) (listed.setIfInBounds i true) (a.put oi.dst v))→UB P md ops S c T F L D X n Q (fuel+1) dead listed a:=by
 intro fuel;induction fuel with
 |zero=>
  intro dead listed a inv _ hr hy H R;obtain⟨w0,b2,a6⟩:=R;have C:=(mem_ready.1 hr).1;obtain⟨v0,w1,b3,hg⟩:=hy.some_ (fun hl=>hW listed inv i Y hr hl) b2 (a6.pre hm hr hi);have h1:=H v0 b3 ⟨w1,by rw[US C];exact hg.1,a6.next hi hg⟩;refine⟨fun h=>(by rw[h] at hr;cases hr),fun j hj=>⟨hR _ inv i Y C j hj,fun o ho=>?_⟩⟩;by_cases I:j=i;·subst I;rw[hi] at ho;cases ho;exact⟨V,hy,H⟩
  have h2:=h1.1 j (ready_mono hj I);have h3:=hR _ inv i Y C j hj;omega
 |succ fuel ih=>
  intro dead listed a inv b0 hr hy H R;obtain⟨w0,b2,a6⟩:=R;have C:=(mem_ready.1 hr).1;obtain⟨v0,w1,b3,hg⟩:=hy.some_ (fun hl=>hW listed inv i Y hr hl) b2 (a6.pre hm hr hi);have h1:=H v0 b3 ⟨w1,by rw[US C];exact hg.1,a6.next hi hg⟩;refine⟨fun h=>(by rw[h] at hr;cases hr),fun j hj=>⟨hR _ inv i Y C j hj,fun oj J=>?_⟩⟩;have c7:=hR _ inv i Y C j hj;by_cases I:j=i;·subst I;rw[hi] at J;cases J;exact⟨V,hy,H⟩
  obtain⟨a7,e3,b5,b9⟩:=mem_ready.1 hj;rw[J] at b5;cases b5;have c0:∀e∈oj.after,Region.binds md e=true→e.on≠i:=fun e he hb heq=>by have h1:=b9 e he hb;rw[heq,getD_both C] at h1;cases h1
  obtain⟨a1,a2,a3⟩:=Oper.apart_spec (b0 j oj J I a7 c0);obtain⟨Vj,c8,_⟩:=(h1.2 j (ready_mono hj I)).2 oj J;have b6:=(wv.put (fun cs b=>a8 j oj cs b J) a1).1 c8;have c9:=a6.pre hm hj J
  have b4:∀k ok,ops[k]? =some ok→k≠i→(listed.setIfInBounds j true).getD k true=false→
   (∀e∈ok.after,Region.binds md e=true→e.on≠i)→oi.apart ops ok=true:=fun k ok hk d7 C d8=>by
   refine b0 k ok hk d7 ?_ d8;by_cases c1:j=k;·subst c1;exact a7
   rw[getD_set_ne true c1] at C;exact C
  refine⟨Vj,b6,fun u hu=>ih (dead||D j) (listed.setIfInBounds j true) (a.put oj.dst u) (inv.set hj c7) b4 (ready_mono hr (Ne.symm I)) ((wv.put (fun cs b=>a8 i oi cs b hi) a3).2 hy) fun v hv=>?_⟩;have comm:=Act.put_comm a v u a2;have key:(∃w,S (ph c ((listed.setIfInBounds j true).setIfInBounds i true)) w∧eU ops T F ((listed.setIfInBounds j true).setIfInBounds i true) ((a.put oj.dst u).put oi.dst v) w)→UB P md ops S c T F L D X n Q fuel (dead||D j||D i) ((listed.setIfInBounds j true).setIfInBounds i true) ((a.put oj.dst u).put oi.dst v):=by(
 rintro⟨w2,b7,c4⟩;rw[←comm,Array.setIfInBounds_comm _ _ I] at c4⊢;rw[Array.setIfInBounds_comm _ _ I] at b7;have b1:(listed.setIfInBounds i true).getD j true=false:=by rw[getD_set_ne true (Ne.symm I)];exact a7
 have d9:=c4.less hm J b1;have c5:∃w,S (ph c (listed.setIfInBounds i true)) w∧eU ops T F (listed.setIfInBounds i true) (a.put oi.dst v) w:=by(
 by_cases b8:j=c
 ·have e0:L i=none∨Region.wanted oi (yielded ops a.tmps)=false:=by(
 by_cases hl:L i=none;·exact .inl hl
 exfalso;have h5:=hW listed inv i Y hr hl;have h6:ph c listed=false:=by unfold ph;rw[←b8];exact getD_both a7
 have h7:(i !=c)=true:=by rw[bne_iff_ne];exact fun e=>I (b8.trans e.symm)
 rw[h6,h7] at h5;cases h5)
  have ev:=hy.single e0 hv b3;subst ev;exact⟨w1,by rw[US C];exact hg.1,a6.next hi hg⟩
 refine⟨w2,?_,d9⟩;rw[US b1,bE.2 b8,Bool.or_false] at b7;exact b7)
 obtain⟨V2,e1,e2⟩:=((H v hv c5).2 j (ready_mono hj I)).2 oj J;have c6:=(wv.put (fun cs b=>a8 j oj cs b J) a1).1 e1;have:=b6.unique c6 b2 c9;subst this;rw[Bool.or_right_comm];exact e2 u hu)
  cases fuel with
  |zero=>exact fun R=>key R R
  |succ fuel=>exact fun R=>key R R
def WE (P:Program)(ops:Array Oper)(S:Bool→World→Prop)(c:Nat)(T:List Tmp)(F:Tmp→Value→World→Prop)(L:Nat→Option (Value→Prop))(D:Nat→Bool)(X:List PanicEntry→World→Prop)(Q:Act→Prop):List Oper→Nat→Bool→Act→Prop
 | [],_,dead,a=>dead=false→Q a
 |o::rest,k,dead,a=>∃V,wv P ops S c T F X k o (L k) (D k) a V∧∀v,V v→WE P ops S c T F L D X Q rest (k+1) (dead||D k) (a.put o.dst v)
theorem UZ {n g:Nat}{Q:Act→Prop}(hm:lk md ops T)(hW:Wu md ops c n L)(hs:Region.noSelect ops=true)
 (hR:∀listed,HeadInv md ops n listed→∀i,i<n→listed.getD i true=false→∀j∈Region.ready md ops listed,j<n):
 ∀(l:List Oper) (k:Nat) (dead:Bool) (listed:Array Bool) (a:Act),(∀j,j<l.length→l[j]? =ops[k+j]?)→k+l.length=n→HeadInv md ops n listed→(∀j,j<k→listed.getD j false=true)→
 Region.lexHead md ops g l.length k listed=true→WE P ops S c T F L D X Q l k dead a→
 UB P md ops S c T F L D X n (fun C a'=>Region.seqB md ops g n C=true∧(∀j,j<n→C.getD j false=true)∧Q a') l.length dead listed a
 | [],k,dead,listed,a,_,Y,_,hd,hB,h=>by
  have:k=n:=by simpa using Y
  subst this;have hB:Region.seqB md ops g k listed=true:=by simpa [Region.lexHead] using hB
  exact fun _=>⟨seqB_ready hB,fun I=>⟨hB,hd,h I⟩⟩
 |o::l,k,dead,listed,a,hl,Y,inv,hd,hB,h=>by(
 have h0:ops[k]? =some o:=by simpa using(hl 0 (by simp)).symm
 simp only[kI,Region.lexHead,gE] at hB;obtain⟨⟨hr,hf⟩,a1⟩:=hB;have J:k<n:=by simp only[kI] at Y;omega
 have R:k∈Region.ready md ops listed:=by simpa using hr
 obtain⟨V,hy,hK⟩:=h;have a6:k<listed.size:=by rw[inv.size];exact(mV.1 h0).1
 refine VB hm hW h0 (Region.noSelect_spec hs) hR J l.length dead listed a inv (Region.free_spec h0 hf) R hy
  fun v hv=>UZ hm hW hs hR l (k+1) _ _ _ (fun j hj=>by have:=hl (j+1) (by simp;omega);simpa [Nat.add_assoc,Nat.add_comm 1 j] using this) (by simp only[kI] at Y;omega) (inv.set R J) (fun j hj=>?_) a1 (hK v hv)
 by_cases e:k=j;·subst e;simp[a6]
 rw[getD_set_ne false e];exact hd j (by omega))
def VV (md:Region.Mode)(ops:Array Oper)(c:Nat):Nat→Nat→Bool
 |0,_=>false
 |f+1,k=>match ops[k]? with
  |some o=>o.after.any fun e=>Region.binds md e&&(e.on==c||VV md ops c f e.on)
  |none=>false
theorem UY {n:Nat}{listed:Array Bool}(inv:HeadInv md ops n listed):∀(f k:Nat) (o:Oper),ops[k]? =some o→VV md ops c f k=true→(∀e∈o.after,Region.binds md e=true→listed.getD e.on false=true)→listed.getD c false=true
 |0,_,_,_,h,_=>by cases h
 |f+1,k,o,J,h,C=>by(
 unfold VV at h;simp only[J] at h;obtain⟨e,he,h⟩:=Array.any_eq_true'.1 h;simp only[gE,Bool.or_eq_true,cy] at h;have h1:=C e he h.1;rcases h.2 with j|j;·rw[←j];exact h1
 cases I:ops[e.on]? with
 |none=>cases f with
  |zero=>cases j
  |succ f=>unfold VV at j;rw[I] at j;cases j
 |some R=>exact UY inv f e.on R I j (inv.closed _ _ I h1))
def Xw (md:Region.Mode)(ops:Array Oper)(c:Nat)(M:List Nat):Bool:=M.all fun k=>VV md ops c ops.size k
theorem Xx {n:Nat}{M:List Nat}(I:∀k,L k≠none→k=c∨k∈M)(h:Xw md ops c M=true):Wu md ops c n L:=by
 intro listed inv k Y hr hl;obtain⟨C,o,J,j⟩:=mem_ready.1 hr;by_cases e:k=c
 ·subst e
  rw[bne_self_eq_false];exact getD_both C
 have h1:=(I k hl).resolve_left e;have R:=List.all_eq_true.1 h k h1;rw[show(k !=c)=true by rw[bne_iff_ne];exact e];exact UY inv _ k o J R j
theorem hH {id:Nat}{Q:Exit→Act→World→Prop}{a:Act}{w:World}{l:List Oper}(n c:Nat)(M:List Nat)(S:Bool→World→Prop)(T:List Tmp)(F:Tmp→Value→World→Prop)(L:Nat→Option (Value→Prop))(D:Nat→Bool)(X:List PanicEntry→World→Prop)
 (hm:P.follows .mixedOrders=true) (hB:yZ .any l.toArray n=true) (hT:ns .any l.toArray T=true) (b1:pM l.toArray T n=true) (hM:∀k,L k≠none→k=c∨k∈M) (b2:Xw .any l.toArray c M=true) (b3:c<n)
 (hS:S false w.drew) (hX:∀C ch w,X ch w→C.defers=a.defers→Q (.panic ch) C w) (h:WE P l.toArray S c T F L D X (fun C=>∀w',S true w'→(∀t∈T,∀v,C.tmps[t]? =some v→F t v w')→wpList P l.toArray Q (l.drop n) C w') (l.take n) 0 false a):(Code.region id l.toArray true).wp P Q a w:=by
 simp only[yZ,gE,Bool.or_eq_true,cy,qal] at hB;obtain⟨⟨a1,hn⟩,a6⟩:=hB;have a7:=sU hT;have hW:=Xx (n:=n) hM b2;have b8:n≤l.length:=by rcases hn with h|⟨⟨h,_⟩,_⟩<;>simp at h<;>omega
 have I:(l.take n).length=n:=by simp;omega
 have a8:(l.drop n).length=l.toArray.size-n:=by simp
 have Y:HeadInv .any l.toArray n (Array.replicate l.toArray.size false):=
  ⟨by simp,fun j oj _ hl=>(by rw[getD_replicate_false] at hl;cases hl),fun t _ ht=>getD_in (by simpa using ht) (getD_replicate_false _ _)⟩
 have hR:∀listed,HeadInv .any l.toArray n listed→∀i,i<n→listed.getD i true=false→∀j∈Region.ready .any l.toArray listed,j<n:=by(
 intro listed inv i hi b4 j hj;obtain⟨_,oj,b5,_⟩:=mem_ready.1 hj;have b9:=(mV.1 b5).1;rcases hn with h|⟨⟨h,hs⟩,hc⟩;·omega
 rcases Nat.lt_or_ge j n with h'|h';·exact h'
 exact absurd hj (tail_waits hs hc h inv _ i rfl hi b4 j h'))
 have H:=UZ (md:=.any) (g:=l.toArray.size-n) a7 hW a1 hR (l.take n) 0 false _ a (fun j hj=>by
  have b6:j<n:=by rw[I] at hj;exact hj
  simp[b6]) (by simpa using I) Y (fun j hj=>by omega) (by rw[I];exact a6) h
 refine wp_region_any hm ?_;have:=Ag (Q':=Q) (J:=fun C=>C.defers=a.defers) (g:=l.toArray.size-n) a7 hR hW (fun _ _ _ _ _ h=>(tA _ _ _).trans h) hX (fun listed C w' b0 hf hL=>by
  have R:∀t∈T,∀v,C.tmps[t]? =some v→F t v w':=fun t ht v hv=>by(
 have h1:=List.all_eq_true.1 b1 t ht;obtain⟨k,hk,h2⟩:=mW.1 h1;cases hx:l.toArray[k]? with
 |none=>simp[hx] at h2
 |some x=>simp only[hx,cy] at h2;exact hf k x t (hL.2.1 k (fg.1 hk)) hx h2 ht v hv)
  have b7:ph c listed=true:=hL.2.1 c b3;rw[b7] at b0;have:=wpAny_of_seq (md:=.any) (Q':=Q) (l.drop n) n listed C w' (fun j=>by simp[List.getElem?_drop]) (by rw[a8];exact hL.1) (hL.2.2 w' b0 R);rwa [a8] at this) _ _ _ w.drew Y rfl (by rw[show ph c (Array.replicate l.toArray.size false)=false from getD_replicate_false _ _];exact hS) (fun k o d hk=>by exfalso;rw[getD_replicate_false] at hk;cases hk) H
 rw[I,show n+(l.toArray.size-n)=l.toArray.size by omega] at this;exact this
section steps
variable {Q:Act→Prop} {o:Oper} {rest:List Oper} {k:Nat} {dead:Bool} {a:Act}
theorem TE (h:Q a):WE P ops S c T F L D X Q [] k dead a:=fun _=>h
theorem cg {v:Value}(hw:Region.wanted o (yielded ops a.tmps)=true)(hl:L k=none)(j:D k=false)(C:k≠c)(I:∀d,o.dst=some d→d∉T)(h:∀b w,S b w→ij ops T F o a w→(execOp a.eval o).run P w=.ok (.value v) w)(J:WE P ops S c T F L D X Q rest (k+1) dead (a.put o.dst v)):WE P ops S c T F L D X Q (o::rest) k dead a:=
 ⟨_,.inl ⟨hw,hl,j,C,v,rfl,fun b w R Y=>⟨h b w R Y,fun d j hT=>absurd hT (I d j)⟩⟩,fun _ e=>by subst e;rw[j,Bool.or_false];exact J⟩
theorem UC {V:Value→Prop}(hw:Region.wanted o (yielded ops a.tmps)=true)(hl:L k=some V)(C:D k=false)(h:∀w,S (k !=c) w→ij ops T F o a w→xG P (S true) T F X false V o w ((execOp a.eval o).run P w))(j:∀w,S (k !=c) w→ij ops T F o a w→∃u w',V u∧om (S true) T F o w w' u)(I:∀v,V v→WE P ops S c T F L D X Q rest (k+1) dead (a.put o.dst v)):WE P ops S c T F L D X Q (o::rest) k dead a:=
 ⟨V,.inr (.inl ⟨hw,hl,by rw[C];exact h,j⟩),fun v J=>by rw[C,Bool.or_false];exact I v J⟩
theorem OY {v:Value}{C:Act}(h:∀b w,S b w→ij ops T F o a w→(execOp a.eval o).run P w=.ok (.value v) w)(I:WE P ops S c T F L D X Q rest (k+1) dead C)(hw:Region.wanted o (yielded ops a.tmps)=true:=by rfl)(hl:L k=none:=by rfl)(j:D k=false:=by rfl)(J:k≠c:=by decide)(R:∀d,o.dst=some d→d∉T:=by intro d j;cases j;decide)(Y:a.put o.dst v=C:=by conv=>lhs;simp only[Act.put,List.setIfInBounds_toArray,List.set_cons_zero,List.set_cons_succ]):WE P ops S c T F L D X Q (o::rest) k dead a:=cg hw hl j J R h (by rw[Y];exact I)
end steps
end
end
section
open Go Go.RowKit
section
variable {P:Program}
theorem NO (w:World)(base:Nat)(t ty e:TypeId)(i:TypeInfo)(z:Value)(size bytes:Nat)(ht:P.underlying t=some (.slice e))(hi:P.info? e=some i)(hz:i.zero=some z)
 (b1:i.size=size) (b7:i.bytes=bytes) (v:Value) (n:Nat) (xs:List Value) (o:w.ownsRow base e size v n xs)
 (b off c:Nat) (news:List Value) (hl:news.length=size) (hA:∀(j:Nat) u,news[j]? =some u→w.cell? ⟨b,off+j,none⟩=some u)
 (h1:∀u∈news,u.oneCell'=true) (b8:n+1≤maxLen) (a1:(n+1)*bytes≤140737488355328)
 (a7:0<size) (v':Value) (w':World) (hr:(Builtin.append_ #[t,t] ty #[v,.slice (some ⟨b,off,none⟩) 1 c]).run P w=.ok v' w'):
 w'.ownsRow base e size v n xs∧∀u ys,w.ownsRow base e size u (n+1) ys→u.ownBlock=v.ownBlock→w'.ownsRow base e size u (n+1) (xs++news):=by
 have b4:∀(j:Nat) u,news[j]? =some u→w.cell? ((⟨b,off,none⟩:Addr).add j)=some u:=fun j u hu=>by(
 have:=hA j u hu;unfold Addr.add;split;·rename_i h;subst h;exact this
 exact this)
 subst b1;subst b7;have I:(xs++news).length=(n+1)*i.size:=by rw[iQ,o.1,hl,Nat.succ_mul]
 rcases o.2 with hn|⟨g,cap,cur,rfl,hb,hh,hc,hm,a6,b2⟩
 ·refine⟨⟨o.1,.inl hn⟩,fun u _ hu e=>?_⟩
  rcases hu.2 with ⟨_,h0⟩|⟨g2,C,a8,rfl,_⟩;·omega
  rw[hn.1] at e;cases e
 by_cases J:n+1≤cap;·(
 have b5:n*i.size+news.length≤cur.size:=by rw[hl,a6,←Nat.succ_mul];exact Nat.mul_le_mul_right _ J
 have h2:=run_append_room (P:=P) w t ty e i ht hi g n cap cur hh ⟨b,off,none⟩ 1 c news (by rw[hl,Nat.one_mul]) b4 h1 J b5;rw[hr] at h2;injection h2 with _ h2;subst h2;have hlen:(cur.toList.take (n*i.size)).length=n*i.size:=by rw[fN,Array.length_toList];omega
 have b0:=setRow_heap w g cur (cur.toList.take (n*i.size)++news++cur.toList.drop (n*i.size+news.length)).toArray e _ hh;have R:(cur.toList.take (n*i.size)++news++cur.toList.drop (n*i.size+news.length)).toArray.size=cap*i.size:=by simp only[List.size_toArray,iQ,hlen,List.length_drop,Array.length_toList];omega
 refine⟨⟨o.1,.inr ⟨g,cap,_,rfl,hb,b0,hc,hm,R,?_⟩⟩,fun u _ hu eu=>⟨I,?_⟩⟩
 ·rw[jM]
  show((cur.toList.take (n*i.size))++_).take (n*i.size)=xs;rw[List.take_append_of_le_length (eE hlen.symm),oF (eE hlen)];exact b2
 rcases hu.2 with ⟨_,h0⟩|⟨g2,C,a8,rfl,b9,Y,c0,c1,b3,c4⟩;·omega
 cases eu;rw[hh] at Y;cases Y;have b6:C=cap:=Nat.eq_of_mul_eq_mul_right a7 (b3.symm.trans a6);subst b6;refine .inr ⟨g,C,_,rfl,hb,b0,J,hm,R,?_⟩;rw[b2];show((xs++news)++_).take ((n+1)*i.size)=xs++news;rw[List.take_append_of_le_length (eE I.symm),oF (eE I)])
 have holds:∀(j:Nat) u,xs[j]? =some u→w.cell? ((⟨g,0,none⟩:Addr).add j)=some u:=o.cells (g:=g) rfl;have h2:=run_append_grow (P:=P) w t ty e i z ht hi hz ⟨g,0,none⟩ n cap xs o.1 holds ⟨b,off,none⟩ 1 c news (by rw[hl,Nat.one_mul]) b4 (by omega) (by unfold maxLen at b8;omega) (growslice_fits (by omega) a1);rw[hr] at h2;injection h2 with _ h2;subst h2;refine⟨⟨o.1,.inr ⟨g,cap,cur,rfl,hb,al.alloc (w:=w.drew) (t:=e) (cs:=cur) hh _,hc,hm,a6,b2⟩⟩,fun u _ hu eu=>?_⟩;rcases hu.2 with ⟨_,h0⟩|⟨g2,C,a8,rfl,b9,Y,c0,c1,b3,c4⟩;·omega
 cases eu;rw[hh] at Y;cases Y;have b6:C=cap:=Nat.eq_of_mul_eq_mul_right a7 (b3.symm.trans a6);omega
def DL (W:World)(base:Nat)(e:TypeId)(size:Nat)(v:Value)(n:Nat)(xs:List Value)(w:World):Prop:=aa (fun b=>v.ownBlock≠some b) W w∧w.ownsRow base e size v n xs
def Oa (u:Value):Prop:=∃g,u=.slice (some ⟨g,0,none⟩) 1 1
def NT (n:Nat)(u:Value):Prop:=∃A c,u=.slice A (n+1) c
variable {ops:Array Oper} {X:List PanicEntry→World→Prop} {W:World} {base:Nat} {e:TypeId} {size:Nat} {v:Value} {n:Nat} {xs cells:List Value} {tb ta:Tmp} {L:Nat→Option (Value→Prop)} {D:Nat→Bool} {Q:Act→Prop} {o:Oper} {rest:List Oper} {k:Nat} {dead:Bool} {a:Act}
theorem DL.first {w:World}(h:w.ownsRow base e size v n xs):DL w base e size v n xs w.drew:=⟨kR.drew,be h ((aa.refl All w).drew) fun _ _=>trivial⟩
end
end
end Go.Proofs.YtgdlhckhpolnnaaGreatDoor
