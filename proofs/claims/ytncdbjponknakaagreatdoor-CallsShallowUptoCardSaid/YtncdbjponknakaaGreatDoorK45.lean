/- Part 46 of the proof of CallsShallow (its last part says what is proved). No condition. -/
import Derived.Test.YtncdbjponknakaaGreatDoorK40
namespace Go.Proofs.YtncdbjponknakaaGreatDoor
set_option maxRecDepth 100000
set_option maxHeartbeats 8000000
open Go.RowKit Go.Proofs.Tryz
theorem PV (j:Addr)(w:World):
 CallsD prog 38 #[.pointer (some j)] .returning w fun e l o=>e=.returned (.tuple #[])∧l=.returning∧o=w:=by
 refine callsD_of_wpS func38 rfl fun C cs hu=>?_;apply wpS_seq;apply wpS_region;simp[wpOpsS,go_sem,recoverD,hu,ntmps38,Exit.thenS];apply wpS_seq;apply wpS_region;simp[wpOpsS,go_sem,Exit.thenS];refine wpS_cond (t:=false) (by simp[Act.eval,Array.replicate]) ?_;simp only[jL,if_false];refine wpS_of_wp (wp_skip ?_);cases C;simp_all [bodyPostS,results,Tryz.results38]
theorem PW (o:Nat)(n x4:Int)(j:List PanicEntry)(w:World)(R:al w o 37 #[.int .i64 x4]):
 CallsD prog 38 #[.pointer (some ⟨o,0,none⟩)] (.panicking ({v:=.iface 116 (.agg #[.int .i64 n]),recovered:=false}::j)) w fun e u' Z=>e=.returned (.tuple #[])∧u'=.panicking ({v:=.iface 116 (.agg #[.int .i64 n]),recovered:=true}::j)∧
  aa (fun b=>b≠o) w Z∧al Z o 37 #[.int .i64 n]:=by
 refine callsD_of_wpS func38 rfl fun c₀ cs hu=>?_;apply wpS_seq;apply wpS_region;simp[wpOpsS,go_sem,recoverD,hu,ntmps38,Exit.thenS];apply wpS_seq;apply wpS_region;simp[wpOpsS,go_sem,Exit.thenS];refine wpS_cond (t:=true) (by simp[Act.eval,Array.replicate]) ?_;simp only[if_true];simp only[show Array.replicate 16 undef= #[undef,undef,undef,undef,undef,undef,undef,undef,undef,undef,undef,undef,undef,undef,undef,undef] from rfl,List.setIfInBounds_toArray,List.set_cons_zero,List.set_cons_succ,List.append_toArray,List.cons_append,mF];refine wpS_of_wp ?_;have a1:(Instr.typeAssert (.iface 116 (.agg #[.int .i64 n])) 20 116 true).run prog w=.ok (.tuple #[.agg #[.int .i64 n],.bool true]) w:=by kernel_rfl
 have q4:=R.cell 0;have f4:=R.free 0;simp only[gc] at q4;obtain⟨Y,l⟩:=eQ (w.alloc (.cells #[.int .i64 n] 116));have g4:=R.alloc (.cells #[.int .i64 n] 116);rw[←l] at g4;have gs:al Y w.heap.size 116 #[.int .i64 n]:=by rw[l];exact ac rfl
 have J:aa All w Y:=by rw[l];exact kR.alloc _
 have C:=J4 g4 J gs l;clear g4 J gs l;go_upto_region 5 with fail;rw[←C.2.2.2];have s0:=C.2.2.1.cell 0;have q5:=C.1.cell 0;have f5:=C.1.free 0;simp only[gc] at s0 q5;go_wp2_with fail;have e4:=C.1.set 0 (.int .i64 n);have ek:=(C.2.1.all (S:=fun b=>b≠o)).setCell (p:=⟨o,0,none⟩) (.inl fun h=>h rfl) (.int .i64 n);simp only[ga] at e4;generalize Y.setCell _ _=W2 at*;simp[bodyPostS,results,Tryz.results38,e4,ek]
theorem QK (R:Ending→World→Prop)(wn:World)(C:Act)(o:Nat)(n Y:Int)(h4:al wn o 37 #[.int .i64 Y])
 (hd:C.defers=[{target:=.fn (.func 38) #[.pointer (some ⟨o,0,none⟩)],args:=#[]}]) (t4:C.tmps[4]? =some (.pointer (some ⟨o,0,none⟩)))
 (j:∀l,aa (fun b=>b≠o) wn l→R (.returned (.int .i64 n)) l):
 bodyPostD prog Tryz.f18 R (.panic [{v:=.iface 116 (.agg #[.int .i64 n]),recovered:=false}]) C wn:=by
 show Leaves prog Tryz.f18 C.tmps R C.defers (.panicking [{v:=.iface 116 (.agg #[.int .i64 n]),recovered:=false}]) wn;rw[hd];refine leaves_cons (f:=38) (args:=#[.pointer (some ⟨o,0,none⟩)]) (by simp) (by simp[go_sem]) ?_;refine(PW o n Y [] wn h4).mono ?_;rintro e u' l ⟨rfl,rfl,J,e4⟩;have Z:=e4.cell 0;simp only[gc] at Z;have j:=j l J;simpa [Leaves,settle,results,Tryz.results18,go_sem,t4,Z] using j
theorem Ry (R:Ending→World→Prop)(j:Act)(wn:World)(o:Nat)(C:Int)(Y:al wn o 37 #[.int .i64 C])
 (Z:j.defers=[{target:=.fn (.func 38) #[.pointer (some ⟨o,0,none⟩)],args:=#[]}]) (t4:j.tmps[4]? =some (.pointer (some ⟨o,0,none⟩)))
 (l:R (.returned (.int .i64 C)) wn):bodyPostD prog Tryz.f18 R .ret j wn:=by
 show Leaves prog Tryz.f18 j.tmps R j.defers .returning wn;rw[Z];refine leaves_cons (f:=38) (args:=#[.pointer (some ⟨o,0,none⟩)]) (by simp) (by simp[go_sem]) ?_;refine(PV _ wn).mono ?_;rintro e u' a1 ⟨rfl,rfl,rfl⟩;have J:=Y.cell 0;simp only[gc] at J;simpa [Leaves,settle,results,Tryz.results18,go_sem,t4,J] using l
def sm.ended (M:sm)(b:Nat):sm:= {M with eb:=some b}
theorem Np.ended {M:sm}{w:World}{j:Value}{l:List Fr}{n e b:Nat}(h:Np M w j l n e)(C:al w b 37 #[.int .i64 0]):Np (M.ended b) w j l n e:=
 ⟨⟨h.core.kept,h.core.mach,⟨h.core.box.taken,h.core.box.box⟩,h.core.arrs,fun J e=>by cases e;exact C⟩,⟨h.frames.row,h.frames.once,fun f o=>⟨(h.frames.each f o).lo,(h.frames.each f o).at_⟩,h.frames.deep⟩⟩
theorem iU.ended {M:sm}(h:iU M)(b:Nat):iU (M.ended b):=⟨h.code,h.lo,h.fns,h.bods,h.all,h.insl,h.lev,h.Na⟩
theorem Ou {M:sm}{w C:World}{b:Nat}{x:Int}(J:iU M)(l:M.eb=none)(R:M.W.heap.size≤b)(h:Pk (M.ended b) w)(Y:al w b 37 #[.int .i64 x])(k:aa (fun c=>c≠b) w C):Pk M C:=by obtain⟨o,n,e,j⟩:=h;have Z:¬M.S b:=sm.hi (fR J.lo R);have u:=Pg (M:=M) k Y Z;have hB:tv M w e:=⟨j.box.taken,j.box.box⟩;refine⟨o,n,e,j.kept.trans u.stand,u.blk j.mach (by decide),hB.upd u (by decide) (by decide) (by decide),fun i a ha=>?_,fun b' e=>by rw[l] at e;cases e⟩;obtain⟨g,cap,cs,v,q3,h4,h5,h6,h7⟩:=j.arrs i a ha;exact⟨g,cap,cs,v,q3,h4,u.blk h5 (by decide),h6,u.nums (M:=M) h7 (by decide)⟩
theorem Rx (M:sm)(w:World)(l:Value)(o:List Fr)(j:Nat)(hM:iU M)(Y:M.eb=none)(hI:Np M w l o 0 0)(hL:OU M.c o)(hf:j≤1048576)(Z:Pj M.c)(a1:NP M.p M.c):
 Calls prog 18 #[.pointer (some ⟨M.mb,0,none⟩),.int .i64 (j:Nat)] w fun en w'=>∃t:Int,t≠22∧en=.returned (.int .i64 t)∧Pk M w':=by
 obtain⟨W1,C⟩:=eQ (w.alloc (.cells #[.int .i64 0] 37));have a6:aa All w W1:=by rw[C];exact kR.alloc _
 have a7:al W1 w.heap.size 37 #[.int .i64 0]:=by rw[C];exact al.new _ _ _
 have a8:=(hI.turn (.of_kept a6)).ended a7;have b0:M.W.heap.size≤w.heap.size:=hI.core.kept.size;have HW:=J2 C a8;have R:=J4 (hM.ended w.heap.size) hM Y b0;have HL:=oH hL;have HC:=oH (fun wr l o n e (h1:Np (M.ended w.heap.size) wr l o n e) (h2:OU M.c o) (h3:n≤2000000) (h4:e≤2000000)=>QN (M.ended w.heap.size) wr l o n e R.1 h1 h2 h3 h4 Z a1);clear C a6 a7 a8 hI hM Y b0 hL Z a1;have c1:∀(fn:Fn) (first cap:Array Value) (w:World),(Instr.makeFunc fn first cap).run prog w=.ok (.func fn first cap) w:=fun _ _ _ _=>rfl
 go_enter_defers func18,ntmps18
 go_upto_region 2 with fail;rw[←HW.1];go_loopg [] j (fun gg wr=>∃(l:Value) (o:List Fr) (n e:Nat),n≤j∧gg=j-n∧e≤n∧Np (M.ended w.heap.size) wr l o n e∧OU M.c o);·exact⟨l,o,0,0,by omega,by omega,by omega,HW.2,HL.out⟩
 obtain⟨b1,b7,n,e,hn,rfl,he,hJ,b2⟩:=hrel;have m8:=hJ.core.mach.cell 8;simp only[gc,sm.ended] at m8;have HS:=oH (HC.out wr b1 b7 n e hJ b2 (by omega) (by omega));have HJ:=oH hJ;clear hJ b2;by_cases c2:n<j
 ·go_wp2_with fail;refine HS.out.mono ?_;rintro en w3 (⟨rfl,b3,b8,e3,b4,c3,b5⟩|⟨t,ht,hE,hR⟩)
  ·have H3:=J2 b4 b5;clear b4 b5 m8;go_wp2_with fail;go_roundg (j-(n+1));·exact⟨b3,b8,n+1,e3,by omega,rfl,by omega,H3.1,H3.2⟩
   omega
  unfold NJ at hE;subst hE;obtain⟨c0,n9,e9,b6⟩:=id hR;refine QK _ w3 _ w.heap.size t 0 (b6.err _ rfl) rfl rfl fun c5 hk=>⟨t,ht,rfl,Ou R.2.1 R.2.2.1 R.2.2.2 hR (b6.err _ rfl) hk⟩
 obtain rfl:n=j:=by omega
 have J:=HJ.out.core.err _ rfl;have c4:=J.cell 0;have f4:=J.free 0;simp only[gc] at c4;have H4:=oH J;clear J;go_wp2_with fail;have b9:=H4.out.set 0 (.int .i64 24);simp only[ga] at b9;exact Ry _ _ _ w.heap.size 24 b9 rfl rfl ⟨24,by decide,rfl,Ou R.2.1 R.2.2.1 R.2.2.2 HJ.out.rest H4.out ((aa.refl (fun c=>c≠w.heap.size) _).setCell (p:=⟨w.heap.size,0,none⟩) (.inl fun h=>h rfl) _)⟩
def MH (c:aE):Prop:=c.Nf.length≤100∧c.Nd.length≤100∧∀b∈c.Nf,b.Ng.length≤100∧∀l∈b.Ng,l.length≤300
def vY (c:aE)(w:World)(e:Ending)(w':World):Prop:=∃b:Bool,e=.returned (.bool b)∧(b=true→MH c)∧aa All w w'
theorem vY.no {c:aE}{w j:World}(h:aa All w j):vY c w (.returned (.bool false)) j:=⟨false,rfl,fun h=>Bool.noConfusion h,h⟩
theorem Hk (S:Nat→Prop)(cv:Value)(c:aE)(w:World)(hc:cQ S w cv c):
 Calls prog 4 #[cv,.int .i64 300] w (vY c w):=by
 obtain⟨ka,kf,rfl,b9,a6,c0⟩:=hc;have a7:=bV.la a6;obtain⟨A1,c1,rfl,m1,m2,m3,_⟩:=b9;obtain⟨A2,c2,rfl,m4,m5,m6,_⟩:=a6;unfold maxLen at*;obtain⟨W0,C⟩:=eQ (w.alloc (.cells #[.slice A1 c.Nd.length c1,.slice A2 c.Nf.length c2,.int .i64 c.main] 30));have R:aa All w W0:=by rw[C];exact kR.alloc _
 have bK:al W0 w.heap.size 30 #[.slice A1 c.Nd.length c1,.slice A2 c.Nf.length c2,.int .i64 c.main]:=by rw[C];exact ac rfl
 obtain⟨k0,k1,k2⟩:=bK.c3;have Y:=J2 C R;have HP:=oH (a7 W0 R);clear C R bK a7 c0;go_enter func4,ntmps4;go_upto_region 1 with fail;rw[←Y.1];by_cases h0:c.Nf.length≤100;·(
 have a8:decide ((100:Int)<(c.Nf.length:Int))=false:=by simp;omega
 by_cases h1:c.Nd.length≤100;·(
 have b0:decide ((100:Int)<(c.Nd.length:Int))=false:=by simp;omega
 have HS:=J2 h0 h1;clear h0 h1;go_wp2_with fail;go_loopg [5,6] c.Nf.length (fun g s5 s6 wr=>∃(j n:Nat),j≤c.Nf.length∧g=c.Nf.length-j∧s6=.int .i64 j∧s5=.int .i64 n∧n≤300∧wr=W0∧∀(i:Nat) b,i<j→c.Nf[i]? =some b→b.Ng.length≤100∧∀l∈b.Ng,l.length≤300);·exact⟨0,0,by omega,by omega,rfl,rfl,by omega,rfl,fun i l hi=>by omega⟩
 obtain⟨j,n,hj,rfl,rfl,rfl,hn,hw,o⟩:=hrel;have Z:=hw.symm;subst Z;by_cases c3:j<c.Nf.length;·(
 obtain⟨b,hb⟩:=eG c3;obtain⟨gb,go,d8,rfl,c4,b1,b2,bv,rfl,a1,c5,c6⟩:=aZ HP.out hb;obtain⟨vA,vc,rfl,v1,v2,v3,_⟩:=id a1;unfold maxLen at v2;have z2:=b2 2 _ rfl;have HB:=J3 o hb a1;clear o hb a1 b2 c5 c6 b1 c4;by_cases g0:b.Ng.length≤100;·(
 have b3:decide ((100:Int)<(b.Ng.length:Int))=false:=by simp;omega
 have c7:=oH g0;go_wp2_with fail;go_loopg [5,7] b.Ng.length (fun g s5 s7 wr=>∃(k J:Nat),k≤b.Ng.length∧g=b.Ng.length-k∧s7=.int .i64 k∧s5=.int .i64 J∧J≤300+k*300∧wr=W0∧∀(i:Nat) l,i<k→b.Ng[i]? =some l→l.length≤300);·exact⟨0,n,by omega,by omega,rfl,rfl,by omega,rfl,fun i l hi=>by omega⟩
 obtain⟨k,J,hk,rfl,rfl,rfl,d9,hw,o⟩:=hrel;have Z:=hw.symm;subst Z;have e0:k*300≤100*300:=Nat.mul_le_mul_right _ (by omega);by_cases b4:k<b.Ng.length;·(
 obtain⟨l,hl⟩:=eG b4;obtain⟨rb,ro,rv,rfl,c8,e1,b5⟩:=bn HB.2.2 hl;obtain⟨LA,lc,rfl,l1,l2,l3,_⟩:=id b5;unfold maxLen at l2;have HL:=J2 o hl;clear o hl b5 c8;by_cases g1:l.length≤300;·(
 have b6:decide ((300:Int)<(l.length:Int))=false:=by simp;omega
 have c9:=oH g1;go_wp2_with fail;go_roundg (b.Ng.length-(k+1))
 ·refine⟨k+1,J+l.length,by omega,rfl,by go_num,by go_num,by omega,rfl,fun i z hi hz=>?_⟩
  by_cases e:i=k;·subst e;rw[HL.2] at hz;cases hz;exact c9.out
  exact HL.1 i z (by omega) hz
 omega)
 have b6:decide ((300:Int)<(l.length:Int))=true:=by simp;omega
 clear g1;go_wp2_with fail;go_ret;exact .no Y.2)
 obtain rfl:k=b.Ng.length:=by omega
 have HA:=oH o;clear o;by_cases g2:J≤300;·(
 have b7:decide ((300:Int)<(J:Int))=false:=by simp;omega
 have d7:=oH g2;go_wp2_with fail;go_roundg (c.Nf.length-(j+1))
 ·refine⟨j+1,J,by omega,rfl,by go_num,rfl,d7.out,rfl,fun i z hi hz=>?_⟩
  by_cases e:i=j;·subst e;rw[HB.2.1] at hz;cases hz;refine⟨c7.out,fun l hl=>?_⟩;obtain⟨i2,b8⟩:=cY.1 hl;exact HA.out i2 l (lS.1 b8).1 b8
  exact HB.1 i z (by omega) hz
 omega)
 have b7:decide ((300:Int)<(J:Int))=true:=by simp;omega
 clear g2;go_wp2_with fail;go_ret;exact .no Y.2)
 have b3:decide ((100:Int)<(b.Ng.length:Int))=true:=by simp;omega
 clear g0;go_wp2_with fail;go_ret;exact .no Y.2)
 obtain rfl:j=c.Nf.length:=by omega
 have HY:=oH (show MH c from⟨HS.1,HS.2,fun b hb=>by obtain⟨i,hi⟩:=cY.1 hb;exact o i b (lS.1 hi).1 hi⟩);clear o;go_wp2_with fail;go_ret;exact⟨true,rfl,fun _=>HY.out,Y.2⟩)
 have b0:decide ((100:Int)<(c.Nd.length:Int))=true:=by simp;omega
 clear h1;go_wp2_with fail;go_ret;exact .no Y.2)
 have a8:decide ((100:Int)<(c.Nf.length:Int))=true:=by simp;omega
 clear h0;go_wp2_with fail;go_ret;exact .no Y.2
end Go.Proofs.YtncdbjponknakaaGreatDoor
