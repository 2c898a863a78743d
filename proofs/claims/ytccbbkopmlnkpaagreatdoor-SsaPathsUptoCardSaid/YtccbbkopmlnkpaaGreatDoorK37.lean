/- Part 38 of the proof (its last part says what is proved). No condition. -/
import Derived.Test.YtccbbkopmlnkpaaGreatDoorK36
namespace Go.Proofs.YtccbbkopmlnkpaaGreatDoor
set_option maxRecDepth 100000
set_option maxHeartbeats 8000000
open Go.RowKit Go.Proofs.Tryz
section
theorem FQ:(prog.info? 148).map (fun i=>(i.zero,i.size,i.bytes))=some (some (.agg #[.string ⟨#[]⟩,.slice none 0 0,.slice none 0 0,.int .i64 0]),4,72):=by kernel_rfl
theorem BT (s:ByteArray):ml s<256∧(ml s=1→fu s=false):=by
 unfold ml;cases fu s with
 |true=>exact⟨by simp,fun h=>by simp at h⟩
 |false=>exact⟨by simp only[Is,if_false];split;decide;split<;>decide,fun _=>rfl⟩
theorem Ld {s:ByteArray}{q:Nat}{t:pj}(h:wN s q=some (some t)):t.beg≤t.fin∧t.kind<256∧(t.kind=1→fu (s.extract t.beg t.fin)=false):=by
 unfold wN at h;simp only at h;split at h
 ·split at h;·cases h;exact⟨Nat.le_succ _,by show 4<256;decide,fun h=>absurd (show 4=1 from h) (by decide)⟩
  split at h;·cases h
  split at h;·cases h
  cases h;exact⟨Nat.le_add_right _ _,(BT _).1,(BT _).2⟩
 cases h
theorem xg {s:ByteArray}(o:dD s=true):∀ {f q:Nat} {l:List pj},fO s f q=some l→∀t∈l,(t.beg≤t.fin∧t.fin≤s.size∧t.kind<256)∧(t.kind=1→fu (s.extract t.beg t.fin)=false)
 |0,_,_,h=>by cases h
 |f+1,q,l,h=>by(
 rw[fO] at h;split at h;·cases h
 ·cases h;intro t j;cases j
 rename_i t0 C;cases hm:fO s f t0.fin with
 |none=>rw[hm] at h;cases h
 |some r=>
  rw[hm] at h;cases h;intro t j;rcases fV.1 j with rfl|j
  ·have:=Ld C
   exact⟨⟨this.1,Gr o C,this.2.1⟩,this.2.2⟩
  exact xg o hm t j)
theorem Lr {s:ByteArray}{l:List pj}(C:s.size≤65536)(j:dD s=true)(h:fO s (s.size+1) 0=some l):(aL.mk s l).Ok:=
 ⟨C,by have:=tR h;show l.length≤_;omega,fun t o=>(xg j h t o).1,j,fun t o=>(xg j h t o).2⟩
theorem yi {p:aL}{f k:Nat}{l c:List aR}(h:mM p (f+1) k l=some c):
 (¬k<p.l.length∧c=l)∨(k<p.l.length∧p.txt k=MX∧l.length<64∧∃x j,uY p k=some (x,j)∧mM p f j (l++[x])=some c):=by
 rw[mM] at h;split at h
 ·rename_i o
  split at h
  ·rename_i C;refine .inr ⟨o,C.1,C.2,?_⟩;cases hi:uY p k with
   |none=>rw[hi] at h;cases h
   |some y=>rw[hi] at h;exact⟨y.1,y.2,rfl,h⟩
  cases h
 rename_i o;cases h;exact .inl ⟨o,rfl⟩
theorem AF {s:ByteArray}{q:cf}(h:rl s=some q):s.size≤65536∧dD s=true∧∃l j,fO s (s.size+1) 0=some l∧mM ⟨s,l⟩ (l.length+1) 0 []=some j∧q=⟨[],j⟩:=by
 unfold rl at h;split at h;·(
 rename_i C;refine⟨C.1,C.2,?_⟩;cases I:fO s (s.size+1) 0 with
 |none=>rw[I] at h;cases h
 |some l=>
  rw[I] at h;simp only[Option.bind_eq_bind,Option.bind_some] at h;cases o:mM ⟨s,l⟩ (l.length+1) 0 [] with
  |none=>rw[o] at h;cases h
  |some j=>rw[o] at h;cases h;exact⟨l,j,rfl,o,rfl⟩)
 cases h
theorem yE (j o C:Addr)(w:World):
 CallsD prog 75 #[.pointer (some j),.pointer (some o),.pointer (some C)] .returning w fun e I J=>e=.returned (.tuple #[])∧I=.returning∧J=w:=by
 refine callsD_of_wpS func75 rfl fun R cs hu=>?_;apply wpS_seq;apply wpS_region;simp[wpOpsS,go_sem,recoverD,hu,ntmps75,Exit.thenS];apply wpS_seq;apply wpS_region;simp[wpOpsS,go_sem,Exit.thenS];refine wpS_cond (t:=false) (by simp[Act.eval,Array.replicate]) ?_;simp only[Is,if_false];refine wpS_of_wp (wp_skip ?_);cases R;simp_all [bodyPostS,results,Tryz.results75]
theorem cP.keepLow {w j:World}(h:cP w)(k:aa (fun b=>b<w.heap.size) w j):cP j:=
 ⟨fun i hi=>k.cell (p:=⟨4,i,none⟩) (gx _ _ (h.1 i hi)) (h.1 i hi),fun i hi=>k.cell (p:=⟨3,i,none⟩) (gx _ _ (h.2 i hi)) (h.2 i hi)⟩
structure Hx (w:World)(rb pb:Nat)(p:aL)(A:Option Addr)(C k:Nat)(l:List aR)(W:World):Prop where
 kept:aa (fun b=>b<w.heap.size) w W
 par:∃m,m≤k∧PB W (pb+1) pb p A C k m
 box:∃A1 C1,al W rb 81 #[.slice none 0 0,.slice A1 l.length C1]∧cq 4 148 mw (pb+1) W (.slice A1 l.length C1) l
 z1:al W (rb+1) 3 #[.int .i64 0]
 z2:al W (rb+1+1) 41 #[.int .i64 0]
 low:w.heap.size≤rb∧rb+1+1<pb
 tk:Ct (fun b=>rb+1+1<b∧b<pb) W (.slice A p.l.length C) p.l
section
variable {w W W':World} {rb pb:Nat} {p:aL} {A:Option Addr} {C k k' m':Nat} {l:List aR}
theorem Hx.moved (h:Hx w rb pb p A C k l W)(hm:dm pb p A C k' m' W W')(o:m'≤k'):Hx w rb pb p A C k' l W':=by have I:=h.low;obtain⟨m,_,J⟩:=h.par;obtain⟨R,Y,j,hr⟩:=h.box;exact⟨h.kept.trans (hm.1.mono fun b j=>by show b≠pb;omega),⟨m',o,J.moved hm⟩,⟨R,Y,j.kept hm.1 (by show rb≠pb;omega),hr.keep eE hm.1 fun b h1 h2=>by show b≠pb;omega⟩,h.z1.kept hm.1 (by show rb+1≠pb;omega),h.z2.kept hm.1 (by show rb+1+1≠pb;omega),I,bW.keep (hm.1.mono fun b j=>by show b≠pb;omega) h.tk⟩
theorem Hx.all (h:Hx w rb pb p A C k l W)(j:aa All W W'):Hx w rb pb p A C k l W':=by obtain⟨m,hm,o⟩:=h.par;exact h.moved ⟨j.all,o.pat.keep j⟩ hm
end
def uC (q:cf)(w:World)(e:Ending)(w':World):Prop:=aa All w w'∧∃v,e=.returned (.tuple #[v,.int .i64 0,.int .i64 0])∧xw (fun b=>w.heap.size≤b∧b<w'.heap.size) w' v q
theorem Dz (R:Ending→World→Prop)(j:Act)(wn:World)(I J Y:Nat)(v0 v1:Value)(h4:al wn I 81 #[v0,v1])(h5:al wn J 3 #[.int .i64 0])(h6:al wn Y 41 #[.int .i64 0])
 (hd:j.defers=[{target:=.fn (.func 75) #[.pointer (some ⟨I,0,none⟩),.pointer (some ⟨J,0,none⟩),.pointer (some ⟨Y,0,none⟩)],args:=#[]}])
 (t4:j.tmps[2]? =some (.pointer (some ⟨I,0,none⟩))) (t5:j.tmps[3]? =some (.pointer (some ⟨J,0,none⟩))) (t6:j.tmps[4]? =some (.pointer (some ⟨Y,0,none⟩)))
 (o:R (.returned (.tuple #[.agg #[v0,v1],.int .i64 0,.int .i64 0])) wn):bodyPostD prog Tryz.f38 R .ret j wn:=by
 show Leaves prog Tryz.f38 j.tmps R j.defers .returning wn;rw[hd];refine leaves_cons (f:=75) (args:=#[.pointer (some ⟨I,0,none⟩),.pointer (some ⟨J,0,none⟩),.pointer (some ⟨Y,0,none⟩)]) (by simp) (by simp[go_sem]) ?_;refine(yE _ _ _ wn).mono ?_;rintro e u' a1 ⟨rfl,rfl,rfl⟩;have r0:=h4.cell 0;have r1:=h4.cell 1;have r5:=h5.cell 0;have r6:=h6.cell 0;simp only[gc] at r0 r1 r5 r6;simpa [Leaves,settle,results,Tryz.results38,go_sem,t4,t5,t6,r0,r1,r5,r6] using o
theorem DA (rb pb:Nat)(p:aL)(A:Option Addr)(C k:Nat)(l:List aR)(w W:World)(o:Option Addr)(I:Nat)(a:Act)
 (hd:a.defers=[{target:=.fn (.func 75) #[.pointer (some ⟨rb,0,none⟩),.pointer (some ⟨rb+1,0,none⟩),.pointer (some ⟨rb+1+1,0,none⟩)],args:=#[]}])
 (t4:a.tmps[2]? =some (.pointer (some ⟨rb,0,none⟩))) (t5:a.tmps[3]? =some (.pointer (some ⟨rb+1,0,none⟩))) (t6:a.tmps[4]? =some (.pointer (some ⟨rb+1+1,0,none⟩))) (a6:l.length≤64)
 (J:Hx w rb pb p A C k l W) (j:al W rb 81 #[.slice none 0 0,.slice o l.length I]) (hr:cq 4 148 mw (pb+1) W (.slice o l.length I) l):
 bodyPostD prog Tryz.f38 (uC ⟨[],l⟩ w) .ret a ((((W.setCell ⟨rb,0,none⟩ (.slice none 0 0)).setCell ⟨rb,1,none⟩ (.slice o l.length I)).setCell ⟨rb+1,0,none⟩ (.int .i64 0)).setCell ⟨rb+1+1,0,none⟩ (.int .i64 0)):=by
 have a1:=J.low;obtain⟨m,hm,hP⟩:=J.par;have a7:=hP.size;have k1:aa (fun b=>b≠rb) W ((W.setCell ⟨rb,0,none⟩ (.slice none 0 0)).setCell ⟨rb,1,none⟩ (.slice o l.length I)):=((kR.setCell (.inl fun h=>h rfl) _).setCell (.inl fun h=>h rfl) _);have b1:=(j.set 0 (.slice none 0 0)).set 1 (.slice o l.length I);have y1:=J.z1.kept k1 (by show rb+1≠rb;omega);have y2:=J.z2.kept k1 (by show rb+1+1≠rb;omega);simp only[ga] at b1;generalize World.setCell _ ⟨rb,1,none⟩ _=W1 at*;have k2:aa (fun b=>b≠rb+1) W1 (W1.setCell ⟨rb+1,0,none⟩ (.int .i64 0)):=kR.setCell (.inl fun h=>h rfl) _;have b2:=b1.kept k2 (by show rb≠rb+1;omega);have y3:=y1.set 0 (.int .i64 0);have y4:=y2.kept k2 (by show rb+1+1≠rb+1;omega);simp only[ga] at y3;generalize World.setCell _ ⟨rb+1,0,none⟩ _=W2 at*;have k3:aa (fun b=>b≠rb+1+1) W2 (W2.setCell ⟨rb+1+1,0,none⟩ (.int .i64 0)):=kR.setCell (.inl fun h=>h rfl) _;have b3:=b2.kept k3 (by show rb≠rb+1+1;omega);have y5:=y3.kept k3 (by show rb+1≠rb+1+1;omega);have y6:=y4.set 0 (.int .i64 0);simp only[ga] at y6;generalize World.setCell _ ⟨rb+1+1,0,none⟩ _=Y at*;have kF:aa (fun b=>b≠rb∧b≠rb+1∧b≠rb+1+1) W Y:=((k1.mono fun b j=>j.1).trans (k2.mono fun b j=>j.2.1)).trans (k3.mono fun b j=>j.2.2);have r2:=(hr.keep eE kF (fun b R h2=>⟨by omega,by omega,by omega⟩)).read (bw:=72) eE (by omega);have kw:aa All w Y:=by have R:aa (fun b=>b<w.heap.size) w Y:=J.kept.trans (kF.mono fun b (j:b<w.heap.size)=>⟨by omega,by omega,by omega⟩);exact⟨R.os,R.output,R.size,fun i hi hS=>R.block i hi hi⟩
 exact Dz _ a Y rb (rb+1) (rb+1+1) _ _ b3 y5 y6 hd t4 t5 t6 ⟨kw,_,rfl,_,_,rfl,qT.nil,gd.wide (fun b j=>⟨by omega,j.2⟩) r2⟩
theorem Dy (s:ByteArray)(q:cf)(w:World)(hr:rl s=some q)(hm:∀l,fO s (s.size+1) 0=some l→l.length≤4096)(hl:cP w):
 Calls prog 38 #[.string s] w (uC q w):=by
 obtain⟨iI,d9,e0,e8,e9⟩:=info_parts FQ;have IS:=J4 d9 e0 e8 e9;clear d9 e0 e8 e9;have l5:∀(fn:Fn) (first cap:Array Value) (w:World),(Instr.makeFunc fn first cap).run prog w=.ok (.func fn first cap) w:=fun _ _ _ _=>rfl;obtain⟨a1,c6,l0,fs,ht,c7,rfl⟩:=AF hr;obtain⟨p,a7⟩:=eQ (aL.mk s l0);have hp:p.Ok:=by rw[a7];exact Lr a1 c6 ht
 have R:p.s=s:=by rw[a7]
 have h0:p.l=l0:=by rw[a7]
 rw[←a7] at c7;have h4:p.l.length≤4096:=by rw[h0];exact hm l0 ht
 subst R;subst h0;have a8:=J5 ht c7 hl c6 a1;clear hr ht c7 hl a7 hm c6 a1;obtain⟨W0,Y⟩:=eQ (((w.alloc (.cells #[.slice none 0 0,.slice none 0 0] 81)).alloc (.cells #[.int .i64 0] 3)).alloc (.cells #[.int .i64 0] 41));have h3:aa All w W0:=by rw[Y];exact((kR.alloc _).alloc _).alloc _
 have a1:W0.heap.size=w.heap.size+3:=by rw[Y];simp
 have g1:al W0 w.heap.size 81 #[.slice none 0 0,.slice none 0 0]:=by rw[Y];exact((al.new _ _ _).alloc _).alloc _
 have g2:al W0 (w.heap.size+1) 3 #[.int .i64 0]:=by rw[Y];exact(ac (by simp)).alloc _
 have g3:al W0 (w.heap.size+1+1) 41 #[.int .i64 0]:=by rw[Y];exact ac (by simp)
 have H0:=J6 Y h3 a1 g1 g2 g3;clear Y h3 a1 g1 g2 g3
 go_enter_defers func38,ntmps38
 go_upto_region 1 with fail;rw[←H0.1];go_wp2_with fail;refine(Hf p.s p.l W0 a8.2.2.2.1 a8.2.2.2.2 a8.1).mono ?_;rintro e w1 ⟨b0,A,C,rfl,b2⟩;have H1:=J5 b0 b2 (H0.2.2.2.1.kept b0 trivial) (H0.2.2.2.2.1.kept b0 trivial) (H0.2.2.2.2.2.kept b0 trivial);clear b0 b2;have u5:=H1.2.2.2.1.cell 0;have y5:=H1.2.2.2.1.free 0;have u6:=H1.2.2.2.2.cell 0;have y6:=H1.2.2.2.2.free 0;simp only[gc] at u5 u6;go_upto_region 2 with fail;have k2:aa (fun b=>b≠w.heap.size+1∧b≠w.heap.size+1+1) w1 ((w1.setCell ⟨w.heap.size+1,0,none⟩ (.int .i64 0)).setCell ⟨w.heap.size+1+1,0,none⟩ (.int .i64 0)):=(kR.setCell (.inl fun h=>h.1 rfl) _).setCell (.inl fun h=>h.2 rfl) _;have z1:=(H1.2.2.2.1.set 0 (.int .i64 0)).kept ((aa.refl (fun b=>b≠w.heap.size+1+1) _).setCell (p:=⟨w.heap.size+1+1,0,none⟩) (.inl fun h=>h rfl) (.int .i64 0)) (by show w.heap.size+1≠_;omega);have z2:=(H1.2.2.2.2.kept ((aa.refl (fun b=>b≠w.heap.size+1) w1).setCell (p:=⟨w.heap.size+1,0,none⟩) (.inl fun h=>h rfl) (.int .i64 0)) (by show w.heap.size+1+1≠_;omega)).set 0 (.int .i64 0);simp only[ga] at z1 z2;generalize World.setCell _ ⟨w.heap.size+1+1,0,none⟩ _=W2 at*;have k4:=H1.1.size;have k5:=H0.2.2.1;have bR:al W2 w.heap.size 81 #[.slice none 0 0,.slice none 0 0]:=H1.2.2.1.kept k2 ⟨by omega,by omega⟩;have h5:Ct (fun b=>w.heap.size+1+1<b∧b<w1.heap.size) W2 (.slice A p.l.length C) p.l:=bW.wide (fun b hb=>⟨by omega,hb.2⟩) (bW.keep (k2.mono fun b hb=>⟨by omega,by omega⟩) H1.2.1);have H2:=J5 k2 bR z1 z2 h5;clear u5 y5 u6 y6;have u6:=z2.cell 0;simp only[gc] at u6;clear k2 z1 z2 bR h5;go_upto_region 4 with fail;clear u6;go_upto_region 6 with fail;have k3:aa All W2 (W2.alloc (.cells #[.string p.s,.slice A p.l.length C,.int .i64 0,.int .i64 0] 140)):=kR.alloc _;have b3:al (W2.alloc (.cells #[.string p.s,.slice A p.l.length C,.int .i64 0,.int .i64 0] 140)) W2.heap.size 140 #[.string p.s,.slice A p.l.length C,.int .i64 0,.int .i64 0]:=al.new _ _ _;obtain⟨rb,a6⟩:=eQ w.heap.size;obtain⟨pb,b8⟩:=eQ W2.heap.size;have k6:=H2.1.size;have h6:W2.heap.size<(W2.alloc (.cells #[.string p.s,.slice A p.l.length C,.int .i64 0,.int .i64 0] 140)).heap.size:=by simp
 have h7:Hx w rb pb p A C 0 [] (W2.alloc (.cells #[.string p.s,.slice A p.l.length C,.int .i64 0,.int .i64 0] 140)):=by refine⟨(((H0.2.1.trans H1.1).all.trans (H2.1.mono fun b (hb:b<w.heap.size)=>⟨by omega,by omega⟩)).trans k3.all),⟨0,bj _,by rw[b8];exact b3,bW.wide (fun b hb=>⟨by omega,by omega⟩) (bW.keep k3.all H2.2.2.2.2),by omega,by omega,Nat.zero_le _⟩,⟨none,0,by rw[a6];exact H2.2.1.kept k3 trivial,cq.nil⟩,by rw[a6];exact H2.2.2.1.kept k3 trivial,by rw[a6];exact H2.2.2.2.1.kept k3 trivial,⟨by omega,by omega⟩,bW.wide (fun b hb=>⟨by omega,by omega⟩) (bW.keep k3.all H2.2.2.2.2)⟩
 rw[←b8,←a6];generalize W2.alloc _=W3 at*;have H3:=oH h7;have l6:=J2 a6 b8;clear k3 b3 h6 h7 k6 k4 k5 b8 a6;go_loopg [] (p.l.length+1) (fun g wr=>∃(f J:Nat) (j:List aR),g=f∧j.length≤64∧mM p f J j=some fs∧Hx w rb pb p A C J j wr);·exact⟨p.l.length+1,0,[],rfl,Nat.zero_le _,a8.2.1,H3.out⟩
 obtain⟨f,J,j,l7,h8,c8,h9⟩:=hrel;obtain⟨wo,k7⟩:=eQ wr;subst k7;cases f with
 |zero=>cases c8
 |succ f=>
 have HS:=J2 h9 c8;clear h9 c8;obtain⟨m1,l8,i1⟩:=HS.1.par;have b9:=oH i1;clear i1;have bq:=b9.out.box.cell 2;simp only[gc] at bq;have l3:=b9.out.le;have l4:=hp.len;rcases yi HS.2 with ⟨hk,e1⟩|⟨hk,i6,c9,x,j1,i7,j0⟩
 ·subst e1;have hd:decide ((J:Int)<(p.l.length:Int))=false:=by simpa using hk
  go_upto_region 15 with fail;obtain⟨A1,C1,o,j2⟩:=HS.1.box;obtain⟨c0,c1⟩:=o.c2;have f0:=o.free 0;have f1:=o.free 1;have t5:=HS.1.z1.cell 0;have f5:=HS.1.z1.free 0;have t6:=HS.1.z2.cell 0;have f6:=HS.1.z2.free 0;simp only[gc] at t5 t6;have HB:=J2 o j2;clear o j2;go_wp2_with fail;exact DA rb pb p A C J fs w wo A1 C1 _ rfl rfl rfl rfl h8 HS.1 HB.1 HB.2
 have hd:decide ((J:Int)<(p.l.length:Int))=true:=by simpa using hk
 have HE:=J3 i7 j0 i6;clear i7 j0 i6;go_wp2_with fail;refine(dS pb p A C J m1 0 wo b9.out.pat hp (by omega)).mono ?_;rintro e w2 ⟨rfl,d7⟩;rw[cJ];have l9:((p.txt J).toList==[97,114,114,97,121])=false:=by rw[HE.2.2];kernel_rfl
 have n1:((p.txt J).toList==[102,110])=true:=by rw[HE.2.2];kernel_rfl
 have I:=oH (HS.1.all d7);have k8:=oH (b9.out.kept d7 fun _ _=>trivial);clear d7 bq;obtain⟨A7,C7,j3,_⟩:=I.out.box;have b1:=j3.cell 1;simp only[gc] at b1;clear j3;go_wp2_with fail;refine(gY pb j.length 64 w2 c9).mono ?_;rintro e w3 ⟨rfl,rfl⟩;clear b1;go_upto_region 14 with fail;obtain⟨A1,C1,o,j4,P,r1,r2,r3,r4,r5⟩:=I.out.box;have j5:=I.out.low;have d8:Value.ownBlock (.slice A1 j.length C1)≠some rb:=fun e=>by have:=(au r1 e).1;omega
 have j6:Value.ownBlock (.slice A1 j.length C1)≠some pb:=fun e=>by have:=(au r1 e).1;omega
 have hz:pb+1≤w2.heap.size:=k8.out.size;have HC:=oH (show∀wn,aa (fun i=>Value.ownBlock (.slice A1 j.length C1)≠some i∧i≠pb) w2 wn→(∃m1,m1≤J∧PB wn (pb+1) pb p A C (J) m1)→Calls prog 79 #[.pointer (some ⟨pb,0,none⟩)] wn (fun e w'=>∃u m3,e=.returned u∧m3≤j1∧aa (fun i=>i≠pb) wn w'∧PB w' (pb+1) pb p A C j1 m3∧im mw wn 4 x u w') from fun wn hk hn=>by obtain⟨m1,k9,hn⟩:=hn;exact(DG pb p A C (J) m1 j1 x wn hn.pat hp (a8.2.2.1.keepLow (I.out.kept.trans (hk.mono fun b (hb:b<w.heap.size)=>⟨fun e=>by have:=(au r1 e).1;omega,by omega⟩))) k9 h4 HE.1).mono fun e w' h=>by obtain⟨u,m3,e1,e2,e3,e4,e5⟩:=h;exact⟨u,m3,e1,e2,e3,hn.moved ⟨e3,e4⟩,e5⟩);have HV:=oH (fun wn (hk:aa (fun i=>Value.ownBlock (.slice A1 j.length C1)≠some i∧i≠pb) w2 wn)=>show wn.cell? ⟨rb,1,none⟩=some (.slice A1 j.length C1) from(o.kept hk ⟨d8,by omega⟩).cell 1);have HG:=oH (nL eE (pb:=pb) (W:=w2) (x:=x) (PS:=(fun b wn=>if b then∃m',m'≤j1∧PB wn (pb+1) pb p A C j1 m' else∃m1,m1≤(J)∧PB wn (pb+1) pb p A C (J) m1)) (v:=(.slice A1 j.length C1)) (by omega) r1 j6 fun b wa wb hk hP=>by cases b<;>(obtain⟨m2,b4,hP⟩:=hP;exact⟨m2,b4,hP.kept hk fun i hi e=>by have:=(au r1 e).1;omega⟩));have HR:=J8 r1 (show(if false=true then∃m',m'≤j1∧PB w2.drew (pb+1) pb p A C (j1) m' else∃m1,m1≤J∧PB w2.drew (pb+1) pb p A C (J) m1) from by obtain⟨m2,b4,hP⟩:=I.out.par;exact⟨m2,b4,hP.kept (S:=All) kR.drew fun _ _=>trivial⟩) d8 r2 r3 r4 r5 o;clear r1 r2 r3 r4 r5 o j6 d8;refine cL 7 3 [4,5] (SY w2 (fun i=>i≠pb) (pb+1) 148 4 (.slice A1 j.length C1) j.length j4.flatten (fun b wn=>if b then∃m',m'≤j1∧PB wn (pb+1) pb p A C j1 m' else∃m1,m1≤(J)∧PB wn (pb+1) pb p A C (J) m1)) [58,59,60] (FY w2 (fun i=>i≠pb) (pb+1) 148 4 (.slice A1 j.length C1) j.length j4.flatten pr (im mw w2 4 x) 59 58) (fun i=>if i=3 then some (fun u=>∃s a v n,u=.agg #[.string s,a,v,.int .i64 n]) else if i=4 then some kI else if i=5 then some (jv j.length) else none) (fun _=>false) (fun _ _=>False) (by kernel_rfl) (by kernel_rfl) (by kernel_rfl) (by kernel_rfl) (yn _ _ _) (by kernel_rfl) (by decide) (SY.first HR.1 HR.2.1) (fun _ _ _ h=>h.elim) ?_;simp only[tK];refine aJ (by rfl) (by rfl) (by rfl) (by decide) (by intro d hd;cases hd;decide) (fun b wn R hp=>by(have q:=HV.out wn R.1;skip;go_simp;with_reducible rfl)) ?_;simp only[PS];refine aJ (by rfl) (by rfl) (by rfl) (by decide) (by intro d hd;cases hd;decide) (fun b wn R hp=>by(have q:=HV.out wn R.1;skip;go_simp;with_reducible rfl)) ?_;simp only[PS];refine aJ (by rfl) (by rfl) (by rfl) (by decide) (by intro d hd;cases hd;decide) (fun b wn R hp=>by(have q:=HV.out wn R.1;skip;go_simp;with_reducible rfl)) ?_;simp only[PS];refine gr (V:=(fun u=>∃s a v n,u=.agg #[.string s,a,v,.int .i64 n])) HG.out (by rfl) (by rfl) (by rfl) rfl (by decide) (fun wn R=>⟨_,_,by(have q:=HV.out wn R.1;go_simp<;>with_reducible rfl),(HC.out wn R.1 R.2.2).mono fun e w' h=>by obtain⟨u,m3,e1,e2,e3,e4,e5⟩:=h;exact⟨u,e1,(by obtain⟨cs,e6,_,_,a,v,e7,_⟩:=e5;subst e7;exact⟨_,_,_,_,e6⟩),e3,⟨m3,e2,e4⟩,e5.early eE R.1.size⟩⟩) ?_;rintro u ⟨s0,a0,v0,n0,rfl⟩;simp only[PS];refine iG HG.out (by decide) (by rfl) (by rfl) (by rfl) rfl (by decide) _ rfl (by decide) (fun wn R=>by(simp only[pr];go_simp<;>with_reducible rfl)) ?_;intro g;simp only[PS];refine iE HG.out (by decide) (by rfl) (by rfl) (by rfl) rfl (by decide) (by decide) (.tmp 56) 79 rfl iI _ 72 underlying79 IS.1 IS.2.1 IS.2.2.1 IS.2.2.2 rfl (by decide) rfl g rfl (by decide) (fun y w hy=>hy.cells) (by unfold maxLen;omega) (by omega) (by omega) ?_;intro A5 c5;simp only[PS];refine aJ (by rfl) (by rfl) (by rfl) (by decide) (by intro d hd;cases hd;decide) (fun b wn R hp=>by(have q:=HV.out wn R.1;skip;go_simp;with_reducible rfl)) ?_;simp only[PS];refine ku fun wt j7 hF=>?_;have c2:=hF 60 (by simp) _ rfl;unfold FY at c2;rw[ah (by decide),ah (by decide)] at c2;have HT:=oH (show SY _ _ _ _ _ _ _ _ _ _ _ from j7);have HA:=oH c2;clear j7 hF c2;simp only[dK];have b6:=HR.2.2.2.2.2.2.2.kept HT.1 ⟨HR.2.2.1,by omega⟩;have b5:=b6.cell 1;have f5:=b6.free 1;simp only[gc] at b5;clear b6;go_wp2_with fail;go_roundg f
 ·refine⟨f,j1,j++[x],rfl,by rw[eV];show j.length+1≤_;omega,HE.2.1,?_⟩;obtain⟨y,wz,q1,q2,q3,q4,q5⟩:=HA.out;have b6:=HR.2.2.2.2.2.2.2.kept HT.1 ⟨HR.2.2.1,by omega⟩;have j8:=pV eE (pb:=pb) (B:=pb+1) (by omega) (by omega) HR.1 HR.2.2.2.1 HR.2.2.2.2.1 HR.2.2.2.2.2.1 HR.2.2.2.2.2.2.1 HT.1 q1 q2 q3 q4 q5;have kc:aa (fun b=>b≠rb) wt (wt.setCell ⟨rb,1,none⟩ (.slice A5 (j.length+1) c5)):=kR.setCell (.inl fun h=>h rfl) _;have j9:=b6.set 1 (.slice A5 (j.length+1) c5);simp only[ga] at j9;have b7:(j++[x]).length=j.length+1:=by simp
  have l2:∃m',m'≤j1∧PB wt (pb+1) pb p A C j1 m':=HT.2.2;have c3:∀b,b≤pb→Value.ownBlock (.slice A1 j.length C1)≠some b:=fun b hb e=>by have:=(au HR.1 e).1;omega
  have k0:Hx w rb pb p A C j1 (j++[x]) (wt.setCell ⟨rb,1,none⟩ (.slice A5 (j.length+1) c5)):=by obtain⟨m2,b4,c4⟩:=l2;have b2:=bW.keep (kc.mono fun b (hb:rb+1+1<b∧b<pb)=>by show b≠rb;omega) (bW.keep (HT.1.mono fun b (hb:rb+1+1<b∧b<pb)=>⟨c3 b (by omega),by omega⟩) I.out.tk);exact⟨(I.out.kept.trans (HT.1.mono fun b (hb:b<w.heap.size)=>⟨c3 b (by omega),by omega⟩)).trans (kc.mono fun b (hb:b<w.heap.size)=>by show b≠rb;omega),⟨m2,b4,⟨c4.box.kept kc (by show pb≠rb;omega),bW.wide (fun b hb=>⟨by omega,by omega⟩) b2,c4.low,by have:=c4.size;have:=kc.size;omega,c4.le⟩⟩,⟨A5,c5,by rw[b7];exact j9,by rw[b7];exact j8.keep eE kc fun b h1 h2=>by show b≠rb;omega⟩,(I.out.z1.kept HT.1 ⟨c3 _ (by omega),by omega⟩).kept kc (by show rb+1≠rb;omega),(I.out.z2.kept HT.1 ⟨c3 _ (by omega),by omega⟩).kept kc (by show rb+1+1≠rb;omega),j5,b2⟩
  exact k0
 omega
end
def pk (w:World):Prop:=∃m,w.cell? ⟨0,0,none⟩=some (.int .i64 m)
theorem pk.keep {w j:World}(h:pk w)(k:aa All w j):pk j:=by obtain⟨m,hm⟩:=h;exact⟨m,k.cell (p:=⟨0,0,none⟩) trivial hm⟩
theorem zB {w j:World}(h:Below w.heap.size w j):aa All w j:=⟨h.os,h.output,h.size,fun k o _=>h.block k o⟩
theorem yZ (w:World)(h:pk w):Calls prog 68 #[.string kD,.string ⟨#[10]⟩] w fun e j=>e=.returned (.slice (some ⟨w.heap.size,0,none⟩) 6 6)∧j=w.alloc (.cells (lN.map Value.string).toArray 9):=by obtain⟨m,hm⟩:=h;refine(Tryz.strings_Split kD ⟨#[10]⟩ m w (by rw[mZ.1];decide) hm (by decide)).mono fun e j h=>?_;rw[mZ.2.2] at h;exact⟨h.1,by rw[h.2];unfold lN;rw[mZ.2.2]⟩
theorem yq (L o:ByteArray)(ws:List ByteArray)(w:World)(R:L.size≤100)(he:Lib.goFieldsP zC L=o::ws)(Y:ws.length≤2):Calls prog 69 #[.string L,.func (.func 70) #[] #[]] w fun e j=>∃A,e=.returned (.slice (some ⟨A,0,none⟩) (ws.length+1) (ws.length+1))∧aa All w j∧cC (fun b=>w.heap.size≤b) j (.slice (some ⟨A,0,none⟩) (ws.length+1) (ws.length+1)) (o::ws):=by refine(Tryz.strings_FieldsFunc_runes 70 #[] (enters_of func70 (by kernel_rfl) rfl) zC L w (by omega) (fun W x hx _=>(Cz x W (by omega)).mono fun e j h=>⟨h.1,0,h.2.symm⟩)).mono fun e j h=>?_;rw[he] at h;obtain⟨A,I,hA,J,C⟩:=h;exact⟨A,I,zB C,ap.wide (fun b C=>C.1) (qF (l:=o::ws) J (by simp;omega))⟩
def Ip (w:World)(e:Ending)(w':World):Prop:=aa All w w'∧∃v,e=.returned (.tuple #[v,.int .i64 0,.int .i64 0])∧gR (fun b=>w.heap.size≤b∧b<w'.heap.size) w' v cU
theorem GR {α:Type}{n bw:Nat}{E:aT α}{S:Nat→Prop}{w:World}{A:Option Addr}{c:Nat}{x:α}(h:qT n bw E S w (.slice A 1 c) [x]):∃g o cs,A=some ⟨g,o,none⟩∧(∀(j:Nat) u,cs[j]? =some u→w.cell? ⟨g,o+j,none⟩=some u)∧E S w cs x:=by obtain⟨a,cap,C,_,_,_,h⟩:=h;injection C with I R Y;subst I;obtain⟨g,o,cs,e,_,_,J,he⟩:=h 0 x rfl;exact⟨g,o,cs,e,fun j u hu=>by have:=J j u hu;rwa [Nat.zero_mul,cJ] at this,he⟩
def Ig (W:World)(v:Value)(wn:World):Prop:=∃ub,v=.tuple #[.slice (some ⟨ub,0,none⟩) 2 2,.int .i64 0]∧W.heap.size≤ub∧al wn ub 52 #[U 3#64,U 2#64]
theorem Ig.keep {W wn j:World}{v:Value}(h:Ig W v wn)(k:aa All wn j):Ig W v j:=by obtain⟨o,e,C,I⟩:=h;exact⟨o,e,C,I.kept k trivial⟩
theorem yL (w:World)(hl:cP w)(hm:pk w):Calls prog 37 #[.string kD] w (Ip w):=by
 obtain⟨W0,a6⟩:=eQ (w.alloc (.cells #[.slice none 0 0,.slice none 0 0,.slice none 0 0,.slice none 0 0,.int .i64 0] 26));have a7:aa All w W0:=by rw[a6];exact kR.alloc _
 have b0:al W0 w.heap.size 26 #[.slice none 0 0,.slice none 0 0,.slice none 0 0,.slice none 0 0,.int .i64 0]:=by rw[a6];exact al.new _ _ _
 have H0:=J5 a6 a7 b0 (hl.keep a7) (hm.keep a7);have j1:(decide ((kD.size:Int)>65536))=false:=by rw[mZ.1];decide
 have j2:=oH hl;clear a6 a7 b0 hl hm;go_enter func37,ntmps37;go_upto_region 1 with fail;rw[show w.alloc (.cells #[.slice none 0 0,.slice none 0 0,.slice none 0 0,.slice none 0 0,.int .i64 0] 26)=W0 from H0.1.symm];go_wp2_with fail;refine(zg kD W0 mZ.2.1).mono ?_;rintro e w1 ⟨rfl,o⟩;have H1:=J4 (H0.2.1.trans o) (H0.2.2.1.kept o trivial) (H0.2.2.2.1.keep o) (H0.2.2.2.2.keep o);have k5:=oH o.size;clear o j1;go_upto_region 8 with fail;have k2:aa All w1 (w1.alloc (.cells #[.slice none 0 0,.slice none 0 0,.slice none 0 0,.slice none 0 0,.int .i64 0,.slice none 0 0] 124)):=kR.alloc _;have b2:al (w1.alloc (.cells #[.slice none 0 0,.slice none 0 0,.slice none 0 0,.slice none 0 0,.int .i64 0,.slice none 0 0] 124)) w1.heap.size 124 #[.slice none 0 0,.slice none 0 0,.slice none 0 0,.slice none 0 0,.int .i64 0,.slice none 0 0]:=al.new _ _ _;have b6:(w1.alloc (.cells #[.slice none 0 0,.slice none 0 0,.slice none 0 0,.slice none 0 0,.int .i64 0,.slice none 0 0] 124)).heap.size=w1.heap.size+1:=by simp
 obtain⟨rd,c0⟩:=eQ w1.heap.size;obtain⟨pb,a8⟩:=eQ w.heap.size;rw[←c0] at b2 b6⊢;rw[←a8];generalize w1.alloc _=W2 at*;have H2:=J6 (H1.1.trans k2) (by rw[a8];exact H1.2.1.kept k2 trivial:al W2 pb 26 #[.slice none 0 0,.slice none 0 0,.slice none 0 0,.slice none 0 0,.int .i64 0]) (H1.2.2.1.keep k2) (H1.2.2.2.keep k2) b2 b6;have d7:pb<rd:=by have I:=H1.2.1.lt;omega
 have c2:=J3 d7 a8 c0;clear k2 b2 b6 d7 a8 c0;go_wp2_with fail;refine(yZ W2 H2.2.2.2.1).mono ?_;rintro e w3 ⟨rfl,e3⟩;have k3:aa All W2 w3:=by rw[e3];exact kR.alloc _
 have bL:al w3 W2.heap.size 9 (lN.map Value.string).toArray:=by rw[e3];exact al.new _ _ _
 have d8:w3.heap.size=W2.heap.size+1:=by rw[e3];simp
 obtain⟨lb,d9⟩:=eQ W2.heap.size;rw[←d9] at bL d8⊢;obtain⟨B,hB⟩:=eQ w3.heap.size;have b4:rd<lb∧lb<B∧B=w3.heap.size:=by have:=H2.2.2.2.2.2;omega
 have h0:sd B rd w3 (GD 0) (Mb 0):=⟨by omega,by omega,rfl,⟨by decide,by decide⟩,⟨by decide,by decide,by decide⟩,none,0,none,0,none,0,none,0,H2.2.2.2.2.1.kept k3 trivial,⟨rfl,.inl ⟨rfl,rfl⟩⟩,⟨fun _=>rfl,cq.nil⟩,⟨fun _=>rfl,cq.nil⟩,⟨fun _=>rfl,cq.nil⟩⟩;have H3:=J6 (H2.1.trans k3) (H2.2.1.kept k3 trivial) (H2.2.2.1.keep k3) bL h0 b4;clear k3 bL d8 d9 hB b4 h0 e3;go_upto_region 9 with fail;go_loopg [7,29] 6 (fun g s7 j3 wr=>∃(k:Nat) (at_:Int),g=6-k∧k≤6∧s7=.int .i64 at_∧0≤at_∧at_≤1000*k∧j3=.int .i64 k∧aa (fun b=>b<B∧b≠rd) w3 wr∧sd B rd wr (GD k) (Mb k));·exact⟨0,0,by omega,Nat.zero_le _,rfl,by omega,by omega,rfl,kR,H3.2.2.2.2.1⟩
 obtain⟨k,at_,k6,k7,rfl,k9,l0,rfl,e6,j⟩:=hrel;obtain⟨R,j4⟩:=eQ wr;subst j4;have Y:=J2 e6 j;clear e6 j;by_cases e7:k<6;·(
 have hd:decide ((k:Int)<6)=true:=by rw[eq];omega
 obtain⟨c6,e8,h6,h7,j5,j6⟩:=Ad k e7;have j7:R.cell? ⟨lb,k,none⟩=some (.string (lN.getD k dQ)):=by rw[(H3.2.2.2.1.kept Y.1 ⟨H3.2.2.2.2.2.2.1,by have:=H3.2.2.2.2.2.1;omega⟩).cell k,List.getElem?_toArray,cy,c6];rfl
 have h8:=fun(n:Nat) w4 (A:Option Addr) c (b1:aa All R w4) hv=>DQ B rd k e7 R w4 A n c Y.2 b1 hv;generalize lN.getD k dQ=L at*;generalize (iW k).1=w0 at*;generalize (iW k).2=ws at*;have HR:=J2 h8 h6;clear h8 c6 h6;go_wp2_with fail;refine(yq L w0 ws R e8 HR.2 j6).mono ?_;rintro e w4 ⟨A,rfl,b1,j⟩;obtain⟨n,hn⟩:=eQ (ws.length+1);rw[←hn] at j⊢;obtain⟨b9,o9,e9,_,j8⟩:=ic j (i:=0) rfl;cases e9;have l1:1≤n:=by omega
 have l2:decide ((n:Int)>0)=true:=by simp;omega
 have j9:=jB w0 0 h7;have e0:((((w0[0]' h7).toNat:Nat):Int)==35)=false:=by rw[bE];omega
 have c7:=J2 b1 j;clear b1 j j9 j5 hn j7;go_wp2_with fail;refine(HR.1 n w4 (some ⟨A,0,none⟩) n c7.1 c7.2).mono ?_;rintro e w5 ⟨rfl,h9⟩;have HL:=oH h9;clear h9 j8 e0;have l3:(L.size:Int)≤100:=by omega
 go_wp2_with fail;go_roundg (6-(k+1));·exact⟨k+1,at_+(L.size+1),rfl,by omega,by go_num,by omega,by omega,by go_num,(Y.1.trans c7.1.all).trans HL.1,HL.2⟩
 omega)
 obtain rfl:k=6:=by omega
 have hd:decide ((6:Int)<6)=false:=by decide
 go_upto_region 18 with fail;obtain⟨a1,c1,a3,c3,a4,c4,a5,c5,I,h2,h3,h4,h5⟩:=Y.2.box;obtain⟨fb,fo,k0,e5,b3,b5⟩:=GR (h5.2.read (bw:=16) oL (by decide));subst e5;rw[show k0=[.int .i64 0,.int .i64 1] from b5] at b3;have c8:=b3 0 _ rfl;have i1:=b3 1 _ rfl;rw[cJ] at c8;have k1:fo=0:=by rcases h5.2.own with ⟨xs,_,⟨e,_⟩|⟨g,cap,cur,e,_⟩⟩<;>cases e;rfl
 subst k1;have k4:=sd.pol Y.2.up Y.2.dep Y.2.few h2 h3 h4;change al R rd _ #[.slice a1 2 c1,.slice none 0 0,.slice a3 1 c3,.slice a4 1 c4,.int .i64 8,.slice (some ⟨fb,0,none⟩) 1 c5] at I;have HE:=J7 I h2 h3 h4 c8 i1 h5;clear h2 h3 h4 h5 c8 i1 b3 b5 k4;obtain⟨e0,e1,e2,e3,e4,e5⟩:=I.c6;clear I;go_upto_region 20 with fail;clear e0 e1 e2 e3 e4 e5;have i6:aa (fun b=>b<w.heap.size) w R:=H3.1.all.trans (Y.1.mono fun b (hb:b<w.heap.size)=>by have I:=c2.out;have h2:=H3.2.2.2.2.2;exact⟨by omega,by omega⟩);have i7:=oH i6;clear i6;have HB:=oH (fun wt (C:aa All R wt)=>zD fb c5 wt (j2.out.keepLow (i7.out.trans C.all)) (C.cell (p:=⟨fb,0,none⟩) trivial HE.2.2.2.2.1) (C.cell (p:=⟨fb,1,none⟩) trivial HE.2.2.2.2.2.1));refine R1 16 R [94] (fun _ v wn=>Ig R v wn) (fun i=>if i=10 then some (fun v=>∃ub,v=.tuple #[.slice (some ⟨ub,0,none⟩) 2 2,.int .i64 0]) else none) ?_;iterate 10 refine O3 (fun wn C hp=>by(have qb:=HE.1.kept C trivial;have q0:=qb.cell 0;have q5:=qb.cell 5;simp only[gc] at q0 q5;go_simp;with_reducible rfl)) ?_
 refine O6 (fun wn C hp=>?_) (fun wn C hp=>?_) ?_
 ·go_simp
  refine(HB.out wn C).mono ?_;rintro e wq ⟨rfl,J,hu⟩;exact .inl ⟨rfl,_,rfl,⟨_,rfl⟩,C.trans J,fun t _ v h=>h.keep J,fun d hd _=>by cases hd;exact⟨_,rfl,C.size,hu⟩⟩
 ·obtain⟨e,wq,_,⟨rfl,J,hu⟩,_⟩:=(HB.out wn C) []
  exact⟨_,wq,⟨_,rfl⟩,C.trans J,fun t _ v h=>h.keep J,fun d hd _=>by cases hd;exact⟨_,rfl,C.size,hu⟩⟩
 rintro v ⟨ub,rfl⟩;simp only[PS];iterate 5 refine O0 ?_
 refine aD fun w7 j0 hF=>?_;obtain⟨l4,e9,c9,bU⟩:=hF 94 (by decide) _ rfl;cases e9;simp only[dK];have H7:=J3 j0 bU c9;clear j0 hF;have b7:=HE.1.kept H7.1 trivial;have e1:=b7.cell 1;have f1:=b7.free 1;have b8:=b7.set 1 (.slice (some ⟨ub,0,none⟩) 2 2);simp only[gc,ga] at e1 b8;have k8:aa (fun b=>b≠rd) w7 (w7.setCell ⟨rd,1,none⟩ (.slice (some ⟨ub,0,none⟩) 2 2)):=kR.setCell (.inl fun h=>h rfl) _;have H8:=J2 k8 b8;clear k8 b7 bU c9;go_upto_region 24 with fail;clear e1 f1;generalize w7.setCell _ _=W8 at*;obtain⟨e0,e1,e2,e3,e4⟩:=H8.2.c5;have kp:aa (fun b=>b<B∧b≠rd) w3 W8:=(Y.1.trans H7.1.all).trans (H8.1.mono fun b hb=>hb.2);have bp:=H3.2.1.kept kp (by have I:=c2.out;have h2:=H3.2.2.2.2.2;exact⟨by omega,by omega⟩);obtain⟨t0,t1,t2,t3,t4⟩:=bp.c5;have f0:=bp.free 0;have f1:=bp.free 1;have f2:=bp.free 2;have f3:=bp.free 3;have f4:=bp.free 4;have HP:=J2 kp bp;clear kp bp;go_wp2_with fail;have bF:=((((HP.2.set 0 (.slice a1 2 c1)).set 1 (.slice (some ⟨ub,0,none⟩) 2 2)).set 2 (.slice a3 1 c3)).set 3 (.slice a4 1 c4)).set 4 (.int .i64 8);have kF:=(((((aa.refl (fun b=>b≠pb) W8).setCell (p:=⟨pb,0,none⟩) (.inl fun h=>h rfl) (.slice a1 2 c1)).setCell (p:=⟨pb,1,none⟩) (.inl fun h=>h rfl) (.slice (some ⟨ub,0,none⟩) 2 2)).setCell (p:=⟨pb,2,none⟩) (.inl fun h=>h rfl) (.slice a3 1 c3)).setCell (p:=⟨pb,3,none⟩) (.inl fun h=>h rfl) (.slice a4 1 c4)).setCell (p:=⟨pb,4,none⟩) (.inl fun h=>h rfl) (.int .i64 8);simp only[ga] at bF;clear e0 e1 e2 e3 e4 t0 t1 t2 t3 t4 f0 f1 f2 f3 f4;generalize World.setCell _ ⟨pb,4,none⟩ _=WF at*;have c6:=c2.out;have e8:=H3.2.2.2.2.2;have kA:aa (fun b=>B≤b) R WF:=(H7.1.all.trans (H8.1.mono fun b (hb:B≤b)=>by show b≠rd;omega)).trans (kF.mono fun b (hb:B≤b)=>by show b≠pb;omega);have c9:=H7.2.2;have l5:=Y.2.size;have kU:aa (fun b=>B≤b) w7 WF:=(H8.1.mono fun b (hb:B≤b)=>by show b≠rd;omega).trans (kF.mono fun b (hb:B≤b)=>by show b≠pb;omega);have bU:=H7.2.1.kept kU (by show B≤ub;omega);have r1:=qF (ay HE.2.1 kA fun g hg=>(au HE.2.1 hg).1) (by decide);have r3:=(HE.2.2.1.keep dh kA fun b h _=>h).2.read (bw:=24) dh (by decide);have r4:=(HE.2.2.2.1.keep dh kA fun b h _=>h).2.read (bw:=24) dh (by decide);have hw:∀b,B≤b∧b<WF.heap.size→w.heap.size≤b∧b<WF.heap.size:=fun b hb=>⟨by omega,hb.2⟩;have kw:aa All w WF:=by have I:aa (fun b=>b<w.heap.size) w WF:=((i7.out.trans H7.1.all).trans (H8.1.mono fun b (hb:b<w.heap.size)=>by show b≠rd;omega)).trans (kF.mono fun b (hb:b<w.heap.size)=>by show b≠pb;omega);exact⟨I.os,I.output,I.size,fun i hi _=>I.block i hi hi⟩
 obtain⟨q0,q1,q2,q3,q4⟩:=bF.c5;have hv:gR (fun b=>w.heap.size≤b∧b<WF.heap.size) WF (.agg #[.slice a1 2 c1,.slice (some ⟨ub,0,none⟩) 2 2,.slice a3 1 c3,.slice a4 1 c4,.int .i64 8]) cU:=by(
 refine⟨_,_,_,_,rfl,ap.wide hw r1,Sl.of_blk (l:=[3#64,2#64]) bU ⟨by omega,by have:=bU.lt;omega⟩ (by decide) (by decide) (by decide) (fun i x hx=>?_),cG.wide hw r3,cG.wide hw r4,qx (by decide) (by decide)⟩
 match i,hx with
 |0,hx=>cases hx;exact⟨_,rfl,rfl⟩
 |1,hx=>cases hx;exact⟨_,rfl,rfl⟩
 |(i+2),hx=>simp at hx)
 exact bodyPost_ret (v:=.tuple #[.agg #[.slice a1 2 c1,.slice (some ⟨ub,0,none⟩) 2 2,.slice a3 1 c3,.slice a4 1 c4,.int .i64 8],.int .i64 0,.int .i64 0]) (by simp[results,Tryz.results37,go_sem,q0,q1,q2,q3,q4]) rfl ⟨kw,_,rfl,hv⟩
end Go.Proofs.YtccbbkopmlnkpaaGreatDoor
