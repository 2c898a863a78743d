/- Part 15 of the proof of CallsShallow (its last part says what is proved). No condition. -/
import Derived.Test.YtncdbjponknakaaGreatDoorK13
namespace Go.Proofs.YtncdbjponknakaaGreatDoor
set_option maxRecDepth 100000
set_option maxHeartbeats 8000000
open Go.RowKit Go.Proofs.Tryz
def Pk (M:sm)(w:World):Prop:=∃frv n e,OS M w frv n e
theorem QE {w:World}{base n:Nat}{t:TypeId}{A:Option Addr}{c:Nat}{xs o:List Value}(h:w.ownsRow base t 1 (.slice A (n+1) c) (n+1) (xs++o))(j:xs.length=n):w.ownsRow base t 1 (.slice A n c) n xs:=by
 refine⟨by omega,?_⟩;rcases h.2 with ⟨_,h0⟩|⟨g,cap,cur,e,C,J,hc,hm,R,Y⟩;·omega
 injection e with Z e2 e3;subst Z;subst e3;refine .inr ⟨g,c,cur,rfl,C,J,by omega,hm,R,?_⟩;have l:=congrArg (List.take n) Y;rw[List.take_take,show min n ((n+1)*1)=n by omega,←j,List.take_left] at l;rw[Nat.mul_one,←j];exact l
def Oj (W:World)(nv:Nat)(_:Tmp)(v:Value)(wn:World):Prop:=∃g,v=.pointer (some ⟨g,0,none⟩)∧W.heap.size≤g∧∃(q:Nat) (a1 a2:Value),q<nv∧al wn g 136 #[.int .i64 q,a1,a2]
theorem Oj.keep {W wn j:World}{l:Nat}{t:Tmp}{v:Value}(h:Oj W l t v wn)(k:aa All wn j):Oj W l t v j:=by obtain⟨g,e,o,q,C,a2,J,R⟩:=h;exact⟨g,e,o,q,C,a2,J,R.kept k trivial⟩
def Sy (u:Value):Prop:=∃g,u=.pointer (some ⟨g,0,none⟩)
theorem Ny.pop {M:sm}{w:World}{A:Option Addr}{c:Nat}{f:Fr}{j:List Fr}(h:Ny M w (.slice A (j.length+1) c) (f::j)):Ny M w (.slice A j.length c) j:=by
 refine⟨?_,(List.nodup_cons.1 (by have:=h.once;rwa [List.map_cons] at this)).2,fun g l=>h.each g (List.mem_cons_of_mem _ l),?_⟩
 ·have:=h.row
  rw[List.reverse_cons,ic] at this;exact QE this (by simp)
 have:=h.deep;rw[kI] at this;omega
theorem Np.popped {M:sm}{w:World}{A:Option Addr}{c:Nat}{f:Fr}{j:List Fr}{n e:Nat}(h:Np M w (.slice A (j.length+1) c) (f::j) n e):Np M (w.setCell ⟨M.mb,7,none⟩ (.slice A j.length c)) (.slice A j.length c) j n e:=by have hu:Nt M [70] w (w.setCell ⟨M.mb,7,none⟩ (.slice A j.length c)):=(Nt.refl (M:=M)).set h.core.mach M.mb_s (by simp) _;have l:=h.core.mach.set 7 (.slice A j.length c);simp only[ga] at l;exact⟨h.core.upd hu l (h.core.box.upd hu (by decide) (by decide) (by decide)) (by decide) (by decide),h.frames.pop.upd hu (by decide) (by decide) (by decide)⟩
theorem QJ (M:sm)(w:World)(a1:Value)(n e:Nat)(f:Fr)(x0:Int)(a8:M.p.Nc≤64)(o:Np M w a1 (f::[]) n e):
 Calls prog 57 #[.pointer (some ⟨M.mb,0,none⟩),.int .i64 x0] w fun en w'=>NJ 0 en∧Pk M w':=by
 obtain⟨b,c,rfl,_⟩:=OJ o.frames;have C:([]:List Fr).length+1≤c:=by
  rcases o.frames.row.2 with ⟨_,h0⟩|⟨g,cap,cur,e,_,_,hc,_⟩;·simp at h0
  injection e with e1 e2 e3;subst e3;exact hc
 have J:=o.frames.deep;obtain⟨m,hm⟩:=eQ (([]:List Fr).length);have R:=o;have l:=o.core.mach;rw[←hm] at l C;have b0:m≤64:=by rw[hm];have h1:(([]:List Fr).length+1:Nat)≤M.p.Nc:=J;omega
 have a6:m≤c:=by omega
 have b1:IntKind.i64.wrap (m:Int)=m:=by rw[IntKind.wrap_i64];omega
 have HF:=oH (show∀wn,aa All w wn→wn.cell? ⟨M.mb,7,none⟩=some (.slice (some ⟨b,0,none⟩) (m+1) c) from fun wn Y=>(l.kept Y trivial).cell 7);have HH:=J2 R hm;clear o R l hm J;go_enter func57,ntmps57;go_wp2_with fail;refine R0 14 w (fun _=>none) ?_;iterate 4 refine O0 ?_
 refine O3 (fun wn Y hp=>by(have e0:=HF.out wn Y;go_simp;with_reducible rfl)) ?_;iterate 3 refine O0 ?_
 refine O3 (fun wn Y hp=>by(have e0:=HF.out wn Y;go_simp;with_reducible rfl)) ?_;iterate 5 refine O0 ?_
 refine aG fun w2 Z hF=>?_;have H2:=oH Z;clear Z hF;simp only[List.drop_succ_cons];have e0:=HF.out w2 H2.out;have ef:=(HH.1.core.mach.kept H2.out trivial).free 7;go_upto_region 1 with fail;have j:=(HH.1.turn (.of_kept H2.out)).popped;rw[←HH.2] at j;generalize w2.setCell _ _=W3 at*;have m7:=j.core.mach.cell 7;simp only[gc] at m7;clear e0 ef;have a7:m=0:=HH.2;subst a7;have HI:=oH j;clear j;go_wp2_with fail;refine(ND 0 _).mono ?_;rintro en w4 ⟨he,rfl⟩;unfold NJ at he;subst he;exact⟨rfl,rfl,_,_,_,HI.out.core⟩
theorem Rv (M:sm)(w:World)(j0:Value)(n e:Nat)(f:Fr)(x0:Int)(g0:Fr)(fs:List Fr)(nv:Nat)(d:Nat)(bd:aw)(x:bz)(j1:aV x0)(j9:M.p.Nc≤64)(hM:iU M)(b3:M.c.Nf[g0.fn]? =some bd)(b4:bd.vars=nv)(c9:Nw M.c g0=some x)(d7:x.kind=7)(d8:x.dst=(d:Nat))(hd:d<nv)(k0:g0.Nj<100000)(hI:Np M w j0 (f::g0::fs) n e):
 Calls prog 57 #[.pointer (some ⟨M.mb,0,none⟩),.int .i64 x0] w fun en w'=>en=.returned (.tuple #[])∧∃d9,Np M w' d9 (⟨g0.g,g0.fn,g0.blk,g0.Nj+1⟩::fs) n e:=by
 obtain⟨b,c,rfl,_⟩:=OJ hI.frames;have e8:(g0::fs:List Fr).length+1≤c:=by
  rcases hI.frames.row.2 with ⟨_,h0⟩|⟨g,cap,cur,e,_,_,hc,_⟩;·simp at h0
  injection e with e1 Z e3;subst e3;exact hc
 have h3:=hI.frames.deep;obtain⟨m,hm⟩:=eQ ((g0::fs:List Fr).length);have h4:=hI;have b5:=hI.core.mach;rw[←hm] at b5 e8;have k1:m≤64:=by rw[hm];have h1:((g0::fs:List Fr).length+1:Nat)≤M.p.Nc:=h3;omega
 have j2:m≤c:=by omega
 have k2:IntKind.i64.wrap (m:Int)=m:=by rw[IntKind.wrap_i64];omega
 have HF:=oH (show∀wn,aa All w wn→wn.cell? ⟨M.mb,7,none⟩=some (.slice (some ⟨b,0,none⟩) (m+1) c) from fun wn l=>(b5.kept l trivial).cell 7);have HH:=J2 h4 hm;clear hI h4 b5 hm h3;go_enter func57,ntmps57;go_wp2_with fail;refine R0 14 w (fun _=>none) ?_;iterate 4 refine O0 ?_
 refine O3 (fun wn l J=>by(have e0:=HF.out wn l;go_simp;with_reducible rfl)) ?_;iterate 3 refine O0 ?_
 refine O3 (fun wn l J=>by(have e0:=HF.out wn l;go_simp;with_reducible rfl)) ?_;iterate 5 refine O0 ?_
 refine aG fun w2 a6 hF=>?_;have H2:=oH a6;clear a6 hF;simp only[List.drop_succ_cons];have e0:=HF.out w2 H2.out;have ef:=(HH.1.core.mach.kept H2.out trivial).free 7;go_upto_region 1 with fail;have C:=(HH.1.turn (.of_kept H2.out)).popped;rw[←HH.2] at C;generalize w2.setCell _ _=W3 at*;have m7:=C.core.mach.cell 7;simp only[gc] at m7;clear e0 ef;have j3:m=fs.length+1:=HH.2;have b7:g0∈g0::fs:=List.mem_cons_self ..;obtain⟨fa,fo,fn,fc,ba,bo,bn,bc,oa,oo,on,oc,av,v,⟨R,⟨b',h5,a7⟩,b9⟩,h6,k3,k4,k5,j4,j5,j⟩:=NI hM C.core.kept c9 (C.frames.each g0 b7);obtain rfl:b'=bd:=kJ (h5.symm.trans b3);obtain rfl:R=nv:=by rw[b4,dP] at a7;exact a7.symm
 obtain⟨vg,rfl,_⟩:=b9.form;obtain⟨Aa,ca,rfl,_⟩:=j4;obtain⟨na,h7⟩:=eQ ((if x.kind=7 then x.args else []).length);rw[←h7] at j;have h8:ct x (.slice Aa na ca)=.iface 136 (.agg #[.int .i64 (d:Nat),.int .i64 x.ref,.slice Aa na ca]):=by unfold ct;simp[d7,d8]
 rw[h8] at j;have a8:=C.core.mach;rw[h6] at a8;have HL:=oH (Nl C (by have:=j3;omega));have HI:=J4 C b9 b3 b4;have HG:=oH (show∀wn,aa All W3 wn→wn.cell? ⟨M.mb,4,none⟩=some (.slice (some ⟨fa,fo,none⟩) fn fc)∧wn.cell? ⟨g0.g,0,none⟩=some (.int .i64 (g0.fn:Nat))∧wn.cell? ⟨g0.g,1,none⟩=some (.int .i64 (g0.blk:Nat))∧wn.cell? ⟨g0.g,2,none⟩=some (.int .i64 (g0.Nj:Nat))∧wn.cell? ⟨g0.g,3,none⟩=some (.slice (some ⟨vg,0,none⟩) R R)∧wn.cell? ⟨fa,fo+g0.fn,none⟩=some (.slice (some ⟨ba,bo,none⟩) bn bc)∧wn.cell? ⟨ba,bo+g0.blk*2+1,none⟩=some (.slice (some ⟨oa,oo,none⟩) on oc)∧wn.cell? ⟨oa,oo+g0.Nj,none⟩=some (.iface 136 (.agg #[.int .i64 (d:Nat),.int .i64 x.ref,.slice Aa na ca])) from fun wn l=>⟨(a8.kept l trivial).cell 4,(j wn l).1,(j wn l).2.1,(j wn l).2.2.1,(j wn l).2.2.2.1,(j wn l).2.2.2.2.1,(j wn l).2.2.2.2.2.1,(j wn l).2.2.2.2.2.2⟩);have k6:∀wn,(Instr.typeAssert (.iface 136 (.agg #[.int .i64 (d:Nat),.int .i64 x.ref,.slice Aa na ca])) 20 136 true).run prog wn=.ok (.tuple #[.agg #[.int .i64 (d:Nat),.int .i64 x.ref,.slice Aa na ca],.bool true]) wn:=fun wn=>by kernel_rfl
 clear C b9 b3 b4 a7 h5 h6 j h8 a8 h7 j5 c9 hM d7 d8;go_wp2_with fail;refine HL.out.mono ?_;rintro en w4 ⟨rfl,h9⟩;have o:=oH h9;clear h9 m7;go_wp2_with fail;refine R1 29 w4 [5] (Oj w4 R) (fun i=>if i=27 then some Sy else if i=28 then some (·=undef) else none) ?_;iterate 3 refine O0 ?_
 refine O3 (fun wn l J=>by(obtain⟨e0,e1,Z,e3,e4,e5,e6,e7⟩:=HG.out wn (o.out.trans l);go_simp;with_reducible rfl)) ?_;iterate 3 refine O0 ?_
 refine O3 (fun wn l J=>by(obtain⟨e0,e1,Z,e3,e4,e5,e6,e7⟩:=HG.out wn (o.out.trans l);go_simp;with_reducible rfl)) ?_;refine O0 ?_;refine O3 (fun wn l J=>by(obtain⟨e0,e1,Z,e3,e4,e5,e6,e7⟩:=HG.out wn (o.out.trans l);go_simp;with_reducible rfl)) ?_;iterate 3 refine O0 ?_
 refine O3 (fun wn l J=>by(obtain⟨e0,e1,Z,e3,e4,e5,e6,e7⟩:=HG.out wn (o.out.trans l);go_simp;with_reducible rfl)) ?_;iterate 2 refine O0 ?_
 refine O3 (fun wn l J=>by(obtain⟨e0,e1,Z,e3,e4,e5,e6,e7⟩:=HG.out wn (o.out.trans l);go_simp;with_reducible rfl)) ?_;iterate 3 refine O0 ?_
 refine O3 (fun wn l J=>by(obtain⟨e0,e1,Z,e3,e4,e5,e6,e7⟩:=HG.out wn (o.out.trans l);go_simp;with_reducible rfl)) ?_;refine O0 ?_;refine O3 (fun wn l J=>by(obtain⟨e0,e1,Z,e3,e4,e5,e6,e7⟩:=HG.out wn (o.out.trans l);go_simp;with_reducible rfl)) ?_;iterate 4 refine O0 ?_
 refine O6 (fun wn l J=>?_) (fun wn l J=>?_) ?_
 ·go_simp
  exact⟨rfl,⟨_,rfl⟩,l.alloc _,fun t _ v h=>h.keep (kR.alloc _),fun d hd hT=>⟨_,rfl,l.size,0,_,_,by omega,al.new _ _ _⟩⟩
 ·exact⟨.pointer (some ⟨wn.heap.size,0,none⟩),wn.alloc (.cells #[.int .i64 0,.int .i64 0,.slice none 0 0] 136),⟨_,rfl⟩,l.alloc _,fun t _ v h=>h.keep (kR.alloc _),fun d hd hT=>⟨_,rfl,l.size,0,_,_,by omega,al.new _ _ _⟩⟩
 rintro v ⟨Y,rfl⟩;simp only[PS];have i0:∀wn,aa All w4 wn→Oj w4 R 5 (.pointer (some ⟨Y,0,none⟩)) wn→∃w',(∀i,wn.frozen? ⟨Y,i,none⟩=false)∧(∃c0 c1 c2,wn.cell? ⟨Y,0,none⟩=some c0∧wn.cell? ⟨Y,1,none⟩=some c1∧wn.cell? ⟨Y,2,none⟩=some c2)∧w'=((wn.setCell ⟨Y,0,none⟩ (.int .i64 (d:Nat))).setCell ⟨Y,1,none⟩ (.int .i64 x.ref)).setCell ⟨Y,2,none⟩ (.slice Aa na ca)∧aa All w4 w'∧∀v,Oj w4 R 5 v wn→Oj w4 R 5 v w':=by(
 intro wn l ⟨g,e,h1,q,a1,a2,hq,hb⟩;cases e;refine⟨_,fun i=>hb.free i,⟨_,_,_,hb.cell 0,hb.cell 1,hb.cell 2⟩,rfl,((l.setCell (p:=⟨Y,0,none⟩) (.inr h1) _).setCell (p:=⟨Y,1,none⟩) (.inr h1) _).setCell (p:=⟨Y,2,none⟩) (.inr h1) _,fun v h=>?_⟩;obtain⟨g2,Z,h2,q2,b1,b2,j6,i1⟩:=h;by_cases eg:g2=Y
 ·subst eg
  refine⟨g2,Z,h2,d,.int .i64 x.ref,.slice Aa na ca,hd,?_⟩;have:=((i1.set 0 (.int .i64 (d:Nat))).set 1 (.int .i64 x.ref)).set 2 (.slice Aa na ca);simpa only[List.setIfInBounds_toArray,List.set_cons_zero,List.set_cons_succ] using this
 exact⟨g2,Z,h2,q2,b1,b2,j6,((i1.far (p:=⟨Y,0,none⟩) eg _).far (p:=⟨Y,1,none⟩) eg _).far (p:=⟨Y,2,none⟩) eg _⟩)
 have c3:=oH i0;clear i0;refine Ey (V:=(·=undef)) (by rfl) (by rfl) (by rfl) (fun wn l J=>?_) (fun wn l J=>?_) ?_;·obtain⟨w9,hz,⟨c0,c1,c2,z0,z1,z2⟩,e9,k9,f9⟩:=c3.out wn l (J 5 (by decide) (by decide) _ rfl);have y0:=hz 0;have y1:=hz 1;have y2:=hz 2;clear hz;go_simp;rw[←e9];exact⟨rfl,rfl,k9,fun t ht v h=>(by have c4:=cx.1 ht;subst c4;exact f9 v h),fun d hd hT=>by cases hd⟩
 ·obtain⟨w9,hz,_,e9,k9,f9⟩:=c3.out wn l (J 5 (by decide) (by decide) _ rfl)
  exact⟨undef,w9,rfl,k9,fun t ht v h=>(by have c4:=cx.1 ht;subst c4;exact f9 v h),fun d hd hT=>by cases hd⟩
 rintro v rfl;simp only[Act.put];refine aG fun w5 i2 hF=>?_;obtain⟨g9,e,i4,q,a1,a2,hq,i5⟩:=hF 5 (by simp) _ rfl;cases e;have H5:=J3 i2 i4 i5;clear i2 hF i4 i5 c3;simp only[dK];have q0:=H5.2.2.cell 0;simp only[gc] at q0;go_upto_region 6 with fail;clear q0;refine R0 8 w5 (fun _=>none) ?_;iterate 3 refine O0 ?_
 refine O3 (fun wn l J=>by(obtain⟨e0,e1,Z,e3,e4,e5,e6,e7⟩:=HG.out wn ((o.out.trans H5.1).trans l);have q0:=(H5.2.2.kept l trivial).cell 0;simp only[gc] at q0;go_simp;with_reducible rfl)) ?_;refine O0 ?_;refine O3 (fun wn l J=>by(obtain⟨e0,e1,Z,e3,e4,e5,e6,e7⟩:=HG.out wn ((o.out.trans H5.1).trans l);have q0:=(H5.2.2.kept l trivial).cell 0;simp only[gc] at q0;go_simp;with_reducible rfl)) ?_;iterate 2 refine O0 ?_
 refine aG fun w6 a6 hF=>?_;have H6:=oH a6;clear a6 hF;simp only[List.drop_succ_cons];have c5:=(o.out.trans H5.1).trans H6.out;have c6:=HI.2.1.kept c5;obtain⟨_,_,o1,o2,o3,_⟩:=c6.at (i:=q) (by omega);cases o1;have i6:=(tq.of_kept (N:=M.N) c5).set (i:=q) c6 rfl j1;have c7:=HI.1.turn i6;obtain⟨v6,b6,b0,i7,c8⟩:=(c7.frames.each g0 b7).at_;obtain rfl:b6=b':=kJ (i7.symm.trans HI.2.2.1);rw[HI.2.2.2,dP] at c8;go_upto_region 7 with fail;generalize w6.setCell _ _=W7 at*;have m2:=b0.cell 2;have n2:=b0.free 2;simp only[gc] at m2;have H7:=J3 c7 b0 c8;clear c7 b0 c8 i7 i6 o2 o3 c6 c5;have k7:IntKind.i64.wrap ((g0.Nj:Int)+1)=(g0.Nj:Int)+1:=by rw[IntKind.wrap_i64];omega
 go_wp2_with fail
 go_end0
 rw[show((g0.Nj:Int)+1)=((g0.Nj+1:Nat):Int) by omega];have b8:=H7.2.1.set 2 (.int .i64 ((g0.Nj+1:Nat):Int));simp only[ga] at b8;have u1:=(Nt.refl (M:=M) (ts:=[114])).set (i:=2) H7.2.1 (sm.hi (H7.1.frames.each g0 b7).lo) (by simp) (.int .i64 ((g0.Nj+1:Nat):Int));refine⟨rfl,_,H7.1.moved g0.blk (g0.Nj+1) u1 b8 HI.2.2.1 HI.2.2.2 H7.2.2 fun g' j7 cs hc=>?_⟩;have j8:g'≠g0.g:=by have:=H7.1.frames.once;rw[List.map_cons,List.nodup_cons] at this;exact fun e=>this.1 (e▸j7)
 exact hc.far (p:=⟨g0.g,2,none⟩) j8 _
section
section
variable (ll:List (List Int))
noncomputable def eB (a b:Nat):Bool:=ay ll a b&&ay ll b a
noncomputable def dm (told:Nat→Bool)(a:Nat):Bool:=!told a&&(List.range ll.length).all fun b=>!ay ll a b||told b||eB ll a b
noncomputable def Al (a:Nat):List Nat:=(List.range ll.length).filter (eB ll a)
noncomputable def nk (a:Nat):List Int:=(Al ll a).map fun(n:Nat)=>(n:Int)
noncomputable def eC (told:Nat→Bool)(a:Nat):Nat→Bool:=fun k=>told k||(decide (k<ll.length)&&eB ll a k)
noncomputable def gm:Nat→(Nat→Bool)→List (List Int)
 |0,_=>[]
 |m+1,told=>match (List.range ll.length).find? (dm ll told) with
  |none=>[]
  |some a=>nk ll a::gm m (eC ll told a)
noncomputable def bC:List (List Int):=gm ll (ll.length+1) fun _=>false
end
section
variable {ll:List (List Int)}
theorem lf (a:Nat):ay ll a a=true:=aY.2 .refl
theorem gr {a b c:Nat}(h:ay ll a b=true)(k:ay ll b c=true):ay ll a c=true:=aY.2 ((aY.1 h).trans (aY.1 k))
theorem Bc (a:Nat):eB ll a a=true:=by simp[eB,lf]
theorem et {a b:Nat}:eB ll a b=true↔ay ll a b=true∧ay ll b a=true:=by simp[eB]
theorem Bd {a b:Nat}(h:eB ll a b=true):eB ll b a=true:=et.2 ⟨(et.1 h).2,(et.1 h).1⟩
theorem zm {a b c:Nat}(h:eB ll a b=true)(k:eB ll b c=true):eB ll a c=true:=
 et.2 ⟨gr (et.1 h).1 (et.1 k).1,gr (et.1 k).2 (et.1 h).2⟩
theorem gV {told:Nat→Bool}{a:Nat}:dm ll told a=true↔told a=false∧∀b,b<ll.length→ay ll a b=true→told b=true∨eB ll a b=true:=by
 simp only[dm,gE,Bool.not_eq_true',List.all_eq_true,fg,Bool.or_eq_true,and_congr_right_iff];intro _;constructor
 ·intro h b j l;rcases h b j with (h|h)|h;·rw[l] at h;cases h
  ·exact .inl h
  exact .inr h
 intro h b j;cases l:ay ll a b with
 |false=>exact .inl (.inl rfl)
 |true=>rcases h b j l with h|h
        ·exact .inl (.inr h)
        exact .inr h
theorem lD {n:Nat}{p:Nat→Bool}:((List.range n).find? p=none∧∀a,a<n→p a=false)∨∃a,(List.range n).find? p=some a∧a<n∧p a=true∧∀b,b<a→p b=false:=by
 cases h:(List.range n).find? p with
 |none=>left;refine⟨rfl,fun a R=>?_⟩;have:=List.find?_eq_none.1 h a (fg.2 R);simpa using this
 |some a=>
  right;rw[List.find?_eq_some_iff_append] at h;obtain⟨Y,j,Z,he,J⟩:=h;have l:j.length<n:=by have:=congrArg List.length he;simp at this;omega
  have o:∀i,i<j.length→j[i]? =some i:=by intro i hi;have C:(List.range n)[i]? =some i:=ln (by omega);rw[he,ma hi] at C;exact C
  have R:a=j.length:=by have C:(List.range n)[j.length]? =some j.length:=ln l;rw[he,kH (cf _)] at C;simpa using C
  refine⟨a,rfl,by omega,Y,fun b hb=>?_⟩;have:=J b (mG (o b (by omega)));simpa using this
theorem zz {told:Nat→Bool}{a k:Nat}(h:told k=true):eC ll told a k=true:=by simp[eC,h]
theorem mr {told:Nat→Bool}{a:Nat}(j:a<ll.length)(l:told a=false):ph ll.length (eC ll told a)<ph ll.length told:=by
 refine Nat.lt_of_le_of_lt (ly ll.length (p:=nX told a) fun k o h=>?_) (jj _ j l);by_cases e:k=a;·subst e;simp[eC,Bc,j]
 rw[fd e] at h;exact zz h
theorem jP {m:Nat}{told:Nat→Bool}(h:(List.range ll.length).find? (dm ll told)=none):gm ll m told=[]:=by
 cases m with
 |zero=>rfl
 |succ m=>simp[gm,h]
theorem iv {m:Nat}{told:Nat→Bool}{a:Nat}(h:(List.range ll.length).find? (dm ll told)=some a):gm ll (m+1) told=nk ll a::gm ll m (eC ll told a):=by simp[gm,h]
noncomputable def oe (ll:List (List Int)):Nat→Nat→Nat
 |0,_=>0
 |n+1,a=>oe ll n a+if ay ll a n then 1 else 0
theorem BN {a b:Nat}(h:ay ll a b=true):∀n,oe ll n b≤oe ll n a
 |0=>cf _
 |n+1=>by(
 have j:=BN h n;unfold oe;cases l:ay ll b n with
 |true=>rw[gr h l];simp;exact j
 |false=>cases ay ll a n<;>simp<;>omega)
theorem wC {a b:Nat}(h:ay ll a b=true)(j:ay ll b a=false):∀n,a<n→oe ll n b<oe ll n a
 |0,h=>by omega
 |n+1,C=>by(
 unfold oe;by_cases e:a=n
 ·subst e
  have l:=BN h a;rw[j,lf];simp;omega
 have l:=wC h j n (by omega);cases o:ay ll b n with
 |true=>rw[gr h o];simp;exact l
 |false=>cases ay ll a n<;>simp<;>omega)
theorem GN {told:Nat→Bool}(m:Nat):∀x,x<ll.length→told x=false→oe ll ll.length x≤m→∃a,a<ll.length∧dm ll told a=true:=by
 induction m with
 |zero=>
  intro x l Z hc;have j:∀n,x<n→0<oe ll n x:=by(
 intro n;induction n with
 |zero=>omega
 |succ n J=>
  intro h;unfold oe;by_cases e:x=n;·subst e;rw[lf];simp
  have:=J (by omega);omega)
  have:=j _ l;omega
 |succ m J=>
  intro x l Z hc;by_cases h:dm ll told x=true;·exact⟨x,l,h⟩
  have h':∃b,b<ll.length∧ay ll x b=true∧told b=false∧eB ll x b=false:=by(
 apply Classical.byContradiction;intro R;apply h;rw[gV];refine⟨Z,fun b Y o=>?_⟩;cases j:told b with
 |true=>exact .inl rfl
 |false=>
  cases C:eB ll x b with
  |true=>exact .inr rfl
  |false=>exact absurd ⟨b,Y,o,j,C⟩ R)
  obtain⟨b,Y,o,j,C⟩:=h';have h3:ay ll b x=false:=by(
 cases h4:ay ll b x with
 |false=>rfl
 |true=>rw[et.2 ⟨o,h4⟩] at C;cases C)
  have:=wC o h3 _ l;exact J b Y j (by omega)
theorem AU {told:Nat→Bool}{x:Nat}(l:x<ll.length)(o:told x=false):∃a,(List.range ll.length).find? (dm ll told)=some a∧a<ll.length∧dm ll told a=true∧∀b,b<a→dm ll told b=false:=by
 obtain⟨a,C,j⟩:=GN _ x l o (cf _);rcases lD (n:=ll.length) (p:=dm ll told) with ⟨_,h⟩|h;·rw[h a C] at j;cases j
 exact h
def ET (ll:List (List Int))(told:Nat→Bool):Prop:=∀x y,y<ll.length→told x=true→eB ll x y=true→told y=true
theorem Bz {told:Nat→Bool}{a:Nat}(h:ET ll told):ET ll (eC ll told a):=by
 intro x y l j o;unfold eC at j⊢;simp only[Bool.or_eq_true,gE,iH] at j⊢;rcases j with j|⟨_,j⟩;·exact .inl (h x y l j o)
 exact .inr ⟨l,zm j o⟩
end
end
theorem DO {ll:List (List Int)}{a:Nat}(j:a<ll.length):(dB ll)[a]? =some (en ll a):=by simp[dB,j]
theorem nU {ll:List (List Int)}{a b:Nat}(j:b<ll.length):(en ll a)[b]? =some (ay ll a b):=by simp[en,j]
theorem gU (ll:List (List Int)):(dB ll).length=ll.length:=by simp[dB]
theorem oX (ll:List (List Int))(a:Nat):(en ll a).length=ll.length:=by simp[en]
theorem io {S:Nat→Prop}{w:World}{A:Option Addr}{n c:Nat}{ll:List (List Int)}(h:jE S w (.slice A n c) (dB ll)){a b:Nat}(ha:a<ll.length)(hb:b<ll.length):
 ∃j R l Y Z,A=some ⟨j,R,none⟩∧S j∧w.cell? ⟨j,R+a,none⟩=some (.slice (some ⟨l,Y,none⟩) ll.length Z)∧ll.length≤Z∧S l∧w.cell? ⟨l,Y+b,none⟩=some (.bool (ay ll a b)):=by
 obtain⟨A',cap,hv,_,_,_,h⟩:=h;injection hv with e1 e2 e3;subst e1;obtain⟨j,R,c1,hA,a1,o,A2,C,rfl,J,_,_,h2⟩:=h a _ (DO ha);obtain⟨l,Y,Z,a6,a7,a8,hE⟩:=h2 b _ (nU hb);subst a6;rw[oX] at o J;exact⟨j,R,l,Y,C,hA,a1,o,J,a7,by rw[a8];exact congrArg some hE⟩
theorem vS (S:Nat→Prop)(ll:List (List Int))(o:Value)(C a b:Nat)(w:World)(l:al w C 79 #[o])(J:jE S w o (dB ll))(R:a<ll.length)(Y:b<ll.length)(_:ll.length≤256):
 Calls prog 25 #[.int .i64 a,.int .i64 b,.pointer (some ⟨C,0,none⟩)] w fun e w'=>e=.returned (.bool (eB ll a b))∧w=w':=by
 have Z:=l.cell 0;have j:=J;obtain⟨A,cap,rfl,_⟩:=J;rw[gU] at j Z;obtain⟨b1,o1,b2,o2,c2,rfl,_,h1,a1,_,h2⟩:=io j R Y;obtain⟨a6,a7,b3,o3,c3,he,_,h3,a8,_,h4⟩:=io j Y R;cases he;simp only[gc] at Z;have hs:eB ll a b=(ay ll a b&&ay ll b a):=rfl;have HS:=oH hs;clear j hs l;generalize ay ll a b=p at*;generalize ay ll b a=q at*;cases p
 ·go_enter func25,ntmps25
  go_wp2;go_ret;exact⟨by rw[HS.out];rfl,rfl⟩
 go_enter func25,ntmps25;go_wp2;go_ret;exact⟨by rw[HS.out];rfl,rfl⟩
theorem st (A:Option Addr)(n cap:Nat)(w:World)(l:n≤cap)(o:cap≤9223372036854775807):Calls prog 27 #[.slice A n cap] w fun e j=>e=.returned (.slice A n n)∧w=j:=by
 have C:n≤9223372036854775807:=by omega
 go_enter func27,ntmps27;go_wp2;go_ret;exact⟨rfl,rfl⟩
noncomputable def qw (ll:List (List Int))(a k:Nat):List Int:=((List.range k).filter (eB ll a)).map fun(n:Nat)=>(n:Int)
theorem Jh {ll:List (List Int)}{a k:Nat}(h:eB ll a k=true):qw ll a (k+1)=qw ll a k++[(k:Int)]:=by simp[qw,List.range_succ,h]
theorem KZ {ll:List (List Int)}{a k:Nat}(h:eB ll a k=false):qw ll a (k+1)=qw ll a k:=by simp[qw,List.range_succ,h]
theorem Jg (ll:List (List Int))(a k:Nat):(qw ll a k).length≤k:=by unfold qw;rw[ce];exact fR (List.length_filter_le _ _) (by simp)
theorem La {ll:List (List Int)}{a k:Nat}(l:k≤256):∀x∈qw ll a k,(Lit.int .i64 x).wf=true:=by intro x j;simp only[qw,dr,List.mem_filter,fg] at j;obtain⟨n,⟨o,_⟩,rfl⟩:=j;exact WalkArith.wf_i64 (by omega)
structure LW (ll:List (List Int))(A:Option Addr)(c:Nat)(vb:Value)(xt xb g xs:Nat)(told:Nat→Bool)(w:World):Prop where
 tou:al w xt 54 #[.slice A ll.length c]
 been:al w xb 79 #[vb]
 told:al w g 85 (az 256 told)
 same:al w xs 84 #[.func (.func 25) #[] #[.pointer (some ⟨xb,0,none⟩)]]
 rows:jE (fun b=>b≠g) w vb (dB ll)
theorem DP (ll:List (List Int))(A:Option Addr)(c:Nat)(vb:Value)(xt xb g xs a:Nat)(told:Nat→Bool)(w:World)(env:LW ll A c vb xt xb g xs told w)(ha:a<ll.length)(hl:ll.length≤256):
 Calls prog 26 #[.int .i64 a,.pointer (some ⟨xt,0,none⟩),.pointer (some ⟨xb,0,none⟩),.pointer (some ⟨g,0,none⟩),.pointer (some ⟨xs,0,none⟩)] w fun e w'=>e=.returned (.bool (dm ll told a))∧w=w':=by
 have a7:=env.tou.cell 0;have a6:=env.been.cell 0;have a8:=env.same.cell 0;have C:=env.rows;have j:=C;obtain⟨Ab,cb,rfl,_⟩:=C;rw[gU] at j a6;simp only[gc] at a7 a6 a8;have J:=fun b (hb:b<ll.length)=>vS _ ll _ xb a b w env.been env.rows ha hb hl;have R:=fun k (hk:k<256)=>(env.told.cell k).trans (bj hk);have HE:=J4 env j J R;clear env j J R;go_enter func26,ntmps26;go_wp2;go_loopg [10] ll.length (fun gg i wr=>∃k:Nat,k≤ll.length∧gg=ll.length-k∧i=.int .i64 k∧w=wr∧∀b,b<k→ay ll a b=true→told b=true∨eB ll a b=true);·exact⟨0,by omega,by omega,rfl,rfl,fun b hb=>by omega⟩
 obtain⟨k,hk,rfl,rfl,rfl,Y⟩:=hrel;have HD:=oH Y;clear Y;by_cases a1:k<ll.length;·(
 obtain⟨b1,o1,b2,o2,c2,rfl,_,h1,b0,_,h2⟩:=io HE.2.1 ha a1;have h3:=HE.2.2.2 k (by omega);cases hp:ay ll a k with
 |false=>
  rw[hp] at h2;have Hp:=oH hp;clear hp;go_wp2;go_roundg (ll.length-(k+1))
  ·refine⟨k+1,by omega,rfl,by go_num,rfl,fun b hb Z=>?_⟩;by_cases e:b=k;·subst e;rw[Hp.out] at Z;cases Z
   exact HD.out b (by omega) Z
  omega
 |true=>
  rw[hp] at h2;have Hp:=oH hp;clear hp;cases l:told k with
  |true=>
   rw[l] at h3;have Ht:=oH l;clear l;go_wp2;go_roundg (ll.length-(k+1))
   ·refine⟨k+1,by omega,rfl,by go_num,rfl,fun b hb Z=>?_⟩;by_cases e:b=k;·subst e;exact .inl Ht.out
    exact HD.out b (by omega) Z
   omega
  |false=>
   rw[l] at h3;have Ht:=oH l;clear l;have o:=HE.2.2.1 k a1;cases hs:eB ll a k with
   |true=>
    rw[hs] at o;have HC:=J2 o hs;clear o hs;go_wp2_with (go_at_call 25;refine HC.1.mono ?_;rintro e w' ⟨rfl,rfl⟩);go_roundg (ll.length-(k+1))
    ·refine⟨k+1,by omega,rfl,by go_num,rfl,fun b hb Z=>?_⟩;by_cases e:b=k;·subst e;exact .inr HC.2
     exact HD.out b (by omega) Z
    omega
   |false=>
    rw[hs] at o;have HC:=J2 o hs;clear o hs;go_wp2_with (go_at_call 25;refine HC.1.mono ?_;rintro e w' ⟨rfl,rfl⟩);go_ret;have hn:dm ll told a=false:=by(
 cases h:dm ll told a with
 |false=>rfl
 |true=>
  rcases (gV.1 h).2 k a1 Hp.out with h|h;·rw[Ht.out] at h;cases h
  rw[HC.2] at h;cases h)
    exact⟨by rw[hn];rfl,rfl⟩)
 have h3:=HE.2.2.2 a (by omega);cases l:told a with
 |true=>
  rw[l] at h3;have hn:dm ll told a=false:=by simp[dm,l]
  have Hn:=oH hn;clear l hn;go_wp2;go_ret;exact⟨by rw[Hn.out];rfl,rfl⟩
 |false=>rw[l] at h3;have hn:dm ll told a=true:=gV.2 ⟨l,fun b hb Z=>HD.out b (by omega) Z⟩;have Hn:=oH hn;clear l hn;go_wp2;go_ret;exact⟨by rw[Hn.out];rfl,rfl⟩
end Go.Proofs.YtncdbjponknakaaGreatDoor
