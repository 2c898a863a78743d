/- Part 22 of the proof (its last part says what is proved). No condition. -/
import Derived.Test.YtccbbkopmlnkpaaGreatDoorK20
namespace Go.Proofs.YtccbbkopmlnkpaaGreatDoor
set_option maxRecDepth 100000
set_option maxHeartbeats 8000000
open Go.RowKit Go.Proofs.Tryz
structure iH (c:aU):Prop where
 Nk:c.Nk.length≤1048576
 Nl:c.Nl.length≤1048576
 Nm:∀b∈c.Nl,b.Nm.length≤1048576
 ops:∀b∈c.Nl,∀l∈b.Nm,l.length≤1048576
 op:∀b∈c.Nl,∀l∈b.Nm,∀x∈l,Co x
theorem Jc:(prog.info? 144).map (fun i=>(i.zero,i.size,i.bytes))=some (some (.agg #[.string ⟨#[]⟩,.int .i64 0,.string ⟨#[]⟩,.int .i64 0]),4,48):=by kernel_rfl
theorem Jd:(prog.info? 171).map (fun i=>(i.zero,i.size,i.bytes))=some (some (.agg #[.string ⟨#[]⟩,.slice none 0 0,.int .i64 0]),3,48):=by kernel_rfl
theorem KQ:(prog.info? 148).map (fun i=>(i.zero,i.size,i.bytes))=some (some (.agg #[.string ⟨#[]⟩,.slice none 0 0,.slice none 0 0,.int .i64 0]),4,72):=by kernel_rfl
theorem Je:(prog.info? 185).map (fun i=>(i.zero,i.size,i.bytes))=some (some (.agg #[.int .u8 0,.int .u8 0,.string ⟨#[]⟩,.string ⟨#[]⟩,.string ⟨#[]⟩,.slice none 0 0,.slice none 0 0,.int .i64 0,.int .i64 0]),9,120):=by kernel_rfl
theorem KC {p:aI}{k:Nat}{j:Int×Int}{o:ByteArray}(C:p.Ng[j.2.toNat]? =some o)(I:aS j.1)(J:jU p)(S:Nat→Prop)(w:World):Ey S w [.string (aG 97 (k:Int)),.int .i64 j.1,.string o,.int .i64 0] (sn p k j):=by
 have e:p.Ng.getD j.2.toNat dQ=o:=by rw[iL,C];rfl
 have R:=dR 97 (k:Int);have Y:=J.Ng o (mG C);refine⟨?_,I,?_,?_,?_⟩
 ·show [Value.string (aG 97 (k:Int)),.int .i64 j.1,.string o,.int .i64 0]=[Value.string (aG 97 (k:Int)),.int .i64 j.1,.string (p.Ng.getD j.2.toNat dQ),.int .i64 0]
  rw[e]
 ·show aS 0
  unfold aS;omega
 ·show(aG 97 (k:Int)).size≤_
  omega
 show(p.Ng.getD j.2.toNat dQ).size≤_;rw[e];omega
theorem Iw {p:aI}{main:Int}{k:Nat}{b:av}{o:ByteArray}{S:Nat→Prop}{w:World}{C a2:Option Addr}{I J R Y:Nat}(j:qZ main k=o)(h1:cC S w (.slice C I J) ((List.range b.params.toNat).map fun(k:Nat)=>aG 118 k))(h2:ms S w (.slice a2 R Y) (b.Nm.mapIdx (du p main))):
 mw S w [.string o,.slice C I J,.slice a2 R Y,.int .i64 0] (aV p main k b):=by
 subst j;refine⟨_,_,rfl,h1,h2,?_,?_,fun s hs=>?_⟩
 ·show aS 0
  unfold aS;omega
 ·show(qZ main k).size≤_;unfold qZ;split;·decide
  have:=dR 102 (k:Int);omega
 obtain⟨i,_,rfl⟩:=dt.1 hs;have:=dR 118 (i:Int);omega
theorem Fb {p:aI}{main:Int}{k:Nat}{l:List bI}{S:Nat→Prop}{w:World}{j:Option Addr}{o C:Nat}(I:Ii S w (.slice j o C) (l.map (iP p main))):
 gO S w [.string (aG 98 (k:Int)),.slice j o C,.int .i64 0] (du p main k l):=by
 refine⟨_,rfl,I,?_,?_⟩
 ·show aS 0
  unfold aS;omega
 show(aG 98 (k:Int)).size≤_;have:=dR 98 (k:Int);omega
theorem Jh {S:Nat→Prop}{w:World}{cs:List Value}{x:aB}(h:rV S w cs x):rV (fun b=>S b∧b<w.heap.size) w cs x:=by obtain⟨a,f,e,j,o,C⟩:=h;exact⟨a,f,e,rM j,rM o,C⟩
theorem ym {S:Nat→Prop}{a w:World}(h:aa (fun b=>S b∧b<a.heap.size) a w):aa S a w:=⟨h.os,h.output,h.size,fun k j o=>h.block k j ⟨o,j⟩⟩
theorem tP {α β:Type}{l:List α}{g:Nat→α→β}{k:Nat}{a:α}(h:l[k]? =some a):(l.mapIdx g).take (k+1)=(l.mapIdx g).take k++[g k a]:=by rw[dT,jz,h];rfl
abbrev Kn:=cq 4 144 Ey
abbrev Bq:=cq 4 148 mw
abbrev xp:=cq 3 171 gO
abbrev EI:=cq 9 185 rV
def EP (p:aI)(c:aU)(w:World)(e:Ending)(w':World):Prop:=∃(A1:Option Addr) (n1 c1:Nat) (A2:Option Addr) (n2 c2:Nat) (b:Bool),e=.returned (.tuple #[.agg #[.slice A1 n1 c1,.slice A2 n2 c2],.bool b])∧b=pB (pi p c)∧aa All w w'∧(pi p c→xw (fun b=>w.heap.size≤b∧b<w'.heap.size) w' (.agg #[.slice A1 n1 c1,.slice A2 n2 c2]) (cg p c))
theorem DO (S:Nat→Prop)(pv cv:Value)(p:aI)(c:aU)(w:World)(hp:gR S w pv p)(hc:mu S w cv c)(s3:jU p)(hz:iH c):
 Calls prog 53 #[pv,cv] w (EP p c w):=by
 obtain⟨iA,s4,s5,s6,s7⟩:=info_parts Jc;obtain⟨iB,s8,s9,u0,u2⟩:=info_parts Jd;obtain⟨iF,u3,u4,u5,u6⟩:=info_parts KQ;obtain⟨iI,u7,u9,v7,v8⟩:=info_parts Je;obtain⟨iS,w0,w1,w3,w6⟩:=info_parts FU;have IS:=J4 w0 w1 w3 w6;have IA:=J4 s4 s5 s6 s7;have IB:=J4 s8 s9 u0 u2;have IF:=J4 u3 u4 u5 u6;have II:=J4 u7 u9 v7 v8;clear s4 s5 s6 s7 s8 s9 u0 u2 u3 u4 u5 u6 u7 u9 v7 v8 w0 w1 w3 w6;have w7:=bG.la hp;obtain⟨G9,vu,vi,vo,rfl,w9,E0,E4,E5,E6⟩:=hp;have x3:=ap.la w9;obtain⟨vl,cl,rfl,q1,q2,q3,_⟩:=w9;obtain⟨a,f,rfl,x4,x5,E7⟩:=hc;have x6:=cr.la x4;have x7:=cE.la x5;obtain⟨A1,c1,rfl,l1,l2,l3,_⟩:=x4;obtain⟨A2,c2,rfl,m1,m2,m3,_⟩:=x5;unfold maxLen at l2 m2;obtain⟨W0,i7⟩:=eQ (((((w.alloc (.cells #[.slice vl p.Ng.length cl,vu,vi,vo,.int .i64 p.Nj] 26)).alloc (.cells #[.slice A1 c.Nk.length c1,.slice A2 c.Nl.length c2,.int .i64 c.main] 30)).alloc (.cells #[.slice none 0 0,.slice none 0 0] 81)).alloc (.cells #[.slice none 0 0,.slice none 0 0] 81)));have x8:W0.heap.size=w.heap.size+4:=by rw[i7];simp
 have x9:aa All w W0:=by rw[i7];exact(((kR.alloc _).alloc _).alloc _).alloc _
 have y4:al W0 (w.heap.size) 26 #[.slice vl p.Ng.length cl,vu,vi,vo,.int .i64 p.Nj]:=by rw[i7];exact(((al.new _ _ _).alloc _).alloc _).alloc _
 have y6:al W0 (w.heap.size+1) 30 #[.slice A1 c.Nk.length c1,.slice A2 c.Nl.length c2,.int .i64 c.main]:=by rw[i7];exact((ac (by simp)).alloc _).alloc _
 have y7:al W0 (w.heap.size+1+1) 81 #[.slice none 0 0,.slice none 0 0]:=by rw[i7];exact(ac (by simp)).alloc _
 have y8:al W0 (w.heap.size+1+1+1) 81 #[.slice none 0 0,.slice none 0 0]:=by rw[i7];exact ac (by simp)
 have HW:=J5 i7 x8 x9 y8 y7;have HP:=J7 y4 y6 w7 x3 x6 x7 E7;have HZ:=J2 s3 hz;have za:=hz.Nk;have zf:=hz.Nl;clear i7 x8 x9 y8 y7 y4 y6 w7 x3 x6 x7 E0 E4 E5 E6 hz s3;go_enter func53,ntmps53;go_upto_region 2 with fail;rw[←HW.1];have c0:=HP.2.1.cell 0;simp only[gc] at c0;go_wp2_with fail;go_loopg [23] c.Nk.length (fun g E8 wr=>∃(k:Nat) (vA:Value),k≤c.Nk.length∧g=c.Nk.length-k∧E8=.int .i64 k∧aa (fun b=>b≠w.heap.size+1+1+1) W0 wr∧al wr (w.heap.size+1+1+1) 81 #[vA,.slice none 0 0]∧Kn (w.heap.size+4) wr vA ((c.Nk.mapIdx (sn p)).take k)∧∀(i:Nat) a,i<k→c.Nk[i]? =some a→0≤a.2∧a.2<p.Ng.length);·exact⟨0,_,by omega,by omega,rfl,kR,HW.2.2.2.1,cq.nil,fun i a h=>by omega⟩
 obtain⟨k,vA,hk,rfl,rfl,R,I,J,a1⟩:=hrel;have h8:aa All w wr:=dj (HW.2.2.1.all.trans (R.mono fun b Y=>by show b≠_;omega));by_cases q6:k<c.Nk.length;·(
 obtain⟨C,cp,rfl⟩:=J.form;have j2:((c.Nk.mapIdx (sn p)).take k).length=k:=by rw[kQ,List.length_mapIdx];omega
 rw[j2] at J I;obtain⟨ar,q7⟩:=eG q6;obtain⟨bb,o,cs,rfl,E9,F0,a8,rfl,y9,G4⟩:=bh (HP.2.2.2.2.1 wr h8) q7;have x0:=a8 0 _ rfl;rw[cJ] at x0;have x1:=a8 1 _ rfl;obtain⟨W1,d7⟩:=eQ (wr.alloc (.cells #[.int .i64 ar.1,.int .i64 ar.2] 99));have k1:aa All wr W1:=by rw[d7];exact kR.alloc _
 have b1:al W1 wr.heap.size 99 #[.int .i64 ar.1,.int .i64 ar.2]:=by rw[d7];exact ac rfl
 have k5:W1.heap.size=wr.heap.size+1:=by rw[d7];simp
 have o7:=R.size;rw[HW.2.1] at o7;have HR:=J6 R I J a1 h8 q7;have H1:=J5 d7 k1 b1 y9 k5;have e1:=b1.cell 1;have e0:=b1.cell 0;simp only[gc] at e0 e1;have p0:=((HP.1.kept R (by show _≠_;omega)).kept k1 trivial).cell 0;simp only[gc] at p0;clear a8 R I J a1 h8 q7 d7 k1 b1 k5;go_upto_region 5 with fail;rw[←H1.1];by_cases ok:0≤ar.2∧ar.2<p.Ng.length;·(
 obtain⟨k6,q8⟩:=ok;have t1:decide (ar.2<0)=false:=by simp;omega
 have t2:decide ((p.Ng.length:Int)≤ar.2)=false:=by simp;omega
 obtain⟨lv,q9⟩:∃lv,p.Ng[ar.2.toNat]? =some lv:=⟨_,lG (by omega)⟩;obtain⟨vb,A0,vv,rfl,_,A5,rfl⟩:=de (HP.2.2.2.1 W1 (HR.2.2.2.2.1.trans H1.2.1)) q9;go_wp2_with fail;have hq:∀wn,aa All W1 wn→wn.cell? ⟨w.heap.size+1+1+1,0,none⟩=some (.slice C k cp)∧wn.cell? ⟨wr.heap.size,0,none⟩=some (.int .i64 ar.1)∧wn.cell? ⟨wr.heap.size,1,none⟩=some (.int .i64 ar.2)∧wn.cell? ⟨w.heap.size,0,none⟩=some (.slice (some ⟨vb,A0,none⟩) p.Ng.length cl)∧wn.cell? ⟨vb,A0+ar.2.toNat,none⟩=some (.string lv):=fun wn hk=>
  ⟨((HR.2.1.kept H1.2.1 trivial).kept hk trivial).cell 0,hk.cell trivial e0,hk.cell trivial e1,hk.cell trivial p0,hk.cell trivial A5⟩
 have HN:=J3 hq (fun wn=>dB 97 (k:Int) (by unfold aS;omega) wn) q9;clear hq q9 A5;refine R1 14 W1 [53] (fun _ v wn=>∃g,v=.slice (some ⟨g,0,none⟩) 1 1∧W1.heap.size≤g∧al wn g 144 #[.string (aG 97 (k:Int)),.int .i64 ar.1,.string lv,.int .i64 0]) (fun i=>if i=3 then some (·=.string (aG 97 (k:Int))) else if i=13 then some (fun v=>∃g,v=.slice (some ⟨g,0,none⟩) 1 1) else none) ?_;refine O0 ?_;refine O3 (fun wn hk hp=>by(have e1:=HN.1 wn hk;have q0:=e1.1;have q1:=e1.2.1;have q2:=e1.2.2.1;have q3:=e1.2.2.2.1;have q4:=e1.2.2.2.2;go_simp;with_reducible rfl)) ?_;refine O0 ?_;refine ug (v:=.string (aG 97 (k:Int))) (by rfl) (by rfl) (by rfl) (by intro d hd;cases hd;decide) (fun wn hk hp=>⟨_,_,by(go_simp<;>with_reducible rfl),(HN.2.1 wn).mono fun e w' h=>⟨h.1,hk.trans h.2,fun t _ v ⟨g,e,h1,h2⟩=>⟨g,e,h1,h2.kept h.2 trivial⟩⟩⟩) ?_;simp only[PS];refine O0 ?_;refine O3 (fun wn hk hp=>by(have e1:=HN.1 wn hk;have q0:=e1.1;have q1:=e1.2.1;have q2:=e1.2.2.1;have q3:=e1.2.2.2.1;have q4:=e1.2.2.2.2;go_simp;with_reducible rfl)) ?_;refine O0 ?_;refine O3 (fun wn hk hp=>by(have e1:=HN.1 wn hk;have q0:=e1.1;have q1:=e1.2.1;have q2:=e1.2.2.1;have q3:=e1.2.2.2.1;have q4:=e1.2.2.2.2;go_simp;with_reducible rfl)) ?_;refine O0 ?_;refine O3 (fun wn hk hp=>by(have e1:=HN.1 wn hk;have q0:=e1.1;have q1:=e1.2.1;have q2:=e1.2.2.1;have q3:=e1.2.2.2.1;have q4:=e1.2.2.2.2;go_simp;with_reducible rfl)) ?_;refine O0 ?_;refine O3 (fun wn hk hp=>by(have e1:=HN.1 wn hk;have q0:=e1.1;have q1:=e1.2.1;have q2:=e1.2.2.1;have q3:=e1.2.2.2.1;have q4:=e1.2.2.2.2;go_simp;with_reducible rfl)) ?_;refine O0 ?_;refine O6 (fun wn hk hp=>?_) (fun wn hk hp=>?_) ?_
 ·go_simp
  exact⟨rfl,⟨_,rfl⟩,hk.alloc _,fun t _ v ⟨g,e,h1,h2⟩=>⟨g,e,h1,h2.alloc _⟩,fun d hd hT=>⟨_,rfl,hk.size,al.new _ _ _⟩⟩
 ·exact⟨.slice (some ⟨wn.heap.size,0,none⟩) 1 1,wn.alloc (.cells #[.string (aG 97 (k:Int)),.int .i64 ar.1,.string lv,.int .i64 0] 144),⟨_,rfl⟩,hk.alloc _,fun t _ v ⟨g,e,h1,h2⟩=>⟨g,e,h1,h2.alloc _⟩,fun d hd hT=>⟨_,rfl,hk.size,al.new _ _ _⟩⟩
 rintro v ⟨g,rfl⟩;simp only[PS];refine aD fun wt d8 hF=>?_;obtain⟨g',e,F1,k7⟩:=hF 53 (by simp) _ rfl;iterate 3 injection e with e
 subst e;simp only[dK];have r3:=HR.2.2.1.keep pH (H1.2.1.trans d8) (fun _ _ _=>trivial);have d9:=(HR.2.1.kept H1.2.1 trivial).kept d8 trivial;have o8:=d8.size;rw[H1.2.2.2.2] at o8;have HT:=J4 d8 d9 k7 r3;clear d8 d9 k7 hF;go_wp2_with (
  at_builtin;go_loud (
  refine bC (E:=Ey) _ pH rfl (.tmp 41) (.tmp 53) 78 rfl iA _ 48 underlying78 IA.1 IA.2.1 IA.2.2.1 IA.2.2.2 rfl (by decide) _ _ rfl HT.2.2.2 g 0 1 rfl [.string (aG 97 (k:Int)),.int .i64 ar.1,.string lv,.int .i64 0] (sn p k ar) rfl ?_ ?_ (by rw[j2];omega) (by omega) ?_ (fun _=>False) ?_ ?_ ?_;·intro j u hu;rw[dU,HT.2.2.1.cell,List.getElem?_toArray];exact hu
  ·intro u hu;simp only[fV,List.not_mem_nil,or_false] at hu;rcases hu with rfl|rfl|rfl|rfl<;>rfl
  ·omega
  ·intro b Y
   exact Y.elim
  ·exact KC HN.2.2 H1.2.2.2.1 HZ.1 _ _
  intro C2 k8 w2 k9 b2 c5;have a7:=HT.2.1.grown b2 (fun e=>by have:=(c5 _ e.symm);omega);have y0:=a7.cell 0;have y1:=a7.free 0;simp only[gc] at y0;have H2:=J4 a7 k9 b2 c5;clear a7 k9 b2 c5))
 go_roundg (c.Nk.length-(k+1))
 ·refine⟨k+1,.slice C2 (k+1) k8,by omega,rfl,by go_num,(((HR.1.trans (H1.2.1.trans HT.1).all).grown H2.2.2.1 fun b Y=>.inr (by have:=H2.2.2.2 b Y;have:=HW.2.1;omega)).setCell (.inl fun h=>h rfl) _),by simpa using H2.1.set 0 (.slice C2 (k+1) k8),?_,fun i x hi hx=>?_⟩
  ·rw[tP HR.2.2.2.2.2]
   have h3:=H2.2.1;rw[j2] at h3;exact h3.keep pH ((aa.refl (fun b=>b≠w.heap.size+1+1+1) _).setCell (.inl fun h=>h rfl) _) fun b Y l0=>by show b≠_;omega
  by_cases e:i=k;·subst e;rw[HR.2.2.2.2.2] at hx;injection hx with hx;subst hx;exact⟨k6,q8⟩
  exact HR.2.2.2.1 i x (by omega) hx
 omega)
 by_cases k6:ar.2<0
 ·have t1:decide (ar.2<0)=true:=by simp;omega
  have o0:=(HR.2.1.kept H1.2.1 trivial).cell 0;have o1:=(HR.2.1.kept H1.2.1 trivial).cell 1;have r0:=((HW.2.2.2.2.kept HR.1 (by show _≠_;omega)).kept H1.2.1 trivial).cell 0;have r1:=((HW.2.2.2.2.kept HR.1 (by show _≠_;omega)).kept H1.2.1 trivial).cell 1;have f0:=((HW.2.2.2.2.kept HR.1 (by show _≠_;omega)).kept H1.2.1 trivial).free 0;have f1:=((HW.2.2.2.2.kept HR.1 (by show _≠_;omega)).kept H1.2.1 trivial).free 1;simp only[gc] at o0 o1 r0 r1;go_wp2_with fail;have b0:=((((HR.1.trans H1.2.1.all).mono fun b (Y:b≠w.heap.size+1+1+1∧b≠w.heap.size+1+1)=>Y.1).setCell (p:=⟨w.heap.size+1+1,0,none⟩) (.inl fun h=>h.2 rfl) (.slice C k cp)).setCell (p:=⟨w.heap.size+1+1,1,none⟩) (.inl fun h=>h.2 rfl) (.slice none 0 0));have a7:=(((HW.2.2.2.2.kept HR.1 (by show _≠_;omega)).kept H1.2.1 trivial).set 0 (.slice C k cp)).set 1 (.slice none 0 0);have g0:=a7.cell 0;have g1:=a7.cell 1;simp only[ga,gc] at g0 g1;refine bodyPost_ret (v:=.tuple #[.agg #[.slice C k cp,.slice none 0 0],.bool false]) (by simp[results,Tryz.f53,go_sem,g0,g1]) rfl ⟨_,_,_,_,_,_,false,rfl,(az fun h=>?_).symm,dj (HW.2.2.1.all.trans (b0.mono fun b Y=>by constructor<;>(show b≠_)<;>omega)),fun h=>?_⟩;·have:=h.1 ar (mG HR.2.2.2.2.2);omega
  have:=h.1 ar (mG HR.2.2.2.2.2);omega
 have t1:decide (ar.2<0)=false:=by simp;omega
 have t2:decide ((p.Ng.length:Int)≤ar.2)=true:=by simp;omega
 have o0:=(HR.2.1.kept H1.2.1 trivial).cell 0;have o1:=(HR.2.1.kept H1.2.1 trivial).cell 1;have r0:=((HW.2.2.2.2.kept HR.1 (by show _≠_;omega)).kept H1.2.1 trivial).cell 0;have r1:=((HW.2.2.2.2.kept HR.1 (by show _≠_;omega)).kept H1.2.1 trivial).cell 1;have f0:=((HW.2.2.2.2.kept HR.1 (by show _≠_;omega)).kept H1.2.1 trivial).free 0;have f1:=((HW.2.2.2.2.kept HR.1 (by show _≠_;omega)).kept H1.2.1 trivial).free 1;simp only[gc] at o0 o1 r0 r1;go_wp2_with fail;have b0:=((((HR.1.trans H1.2.1.all).mono fun b (Y:b≠w.heap.size+1+1+1∧b≠w.heap.size+1+1)=>Y.1).setCell (p:=⟨w.heap.size+1+1,0,none⟩) (.inl fun h=>h.2 rfl) (.slice C k cp)).setCell (p:=⟨w.heap.size+1+1,1,none⟩) (.inl fun h=>h.2 rfl) (.slice none 0 0));have a7:=(((HW.2.2.2.2.kept HR.1 (by show _≠_;omega)).kept H1.2.1 trivial).set 0 (.slice C k cp)).set 1 (.slice none 0 0);have g0:=a7.cell 0;have g1:=a7.cell 1;simp only[ga,gc] at g0 g1;refine bodyPost_ret (v:=.tuple #[.agg #[.slice C k cp,.slice none 0 0],.bool false]) (by simp[results,Tryz.f53,go_sem,g0,g1]) rfl ⟨_,_,_,_,_,_,false,rfl,(az fun h=>?_).symm,dj (HW.2.2.1.all.trans (b0.mono fun b Y=>by constructor<;>(show b≠_)<;>omega)),fun h=>?_⟩;·have:=h.1 ar (mG HR.2.2.2.2.2);omega
 have:=h.1 ar (mG HR.2.2.2.2.2);omega)
 obtain rfl:k=c.Nk.length:=by omega
 rw[oz (by rw[List.length_mapIdx];omega)] at J;have e9:∀a∈c.Nk,0≤a.2∧a.2<p.Ng.length:=fun a ha=>by obtain⟨i,hi⟩:=List.getElem?_of_mem ha;exact a1 i a (lS.1 hi).1 hi
 have hA:=J.read (bw:=48) pH (by rw[List.length_mapIdx];omega);obtain⟨C,cp,rfl⟩:=J.form;rw[List.length_mapIdx] at hA I;have d1:=(HP.2.1.kept R (by show _≠_;omega)).cell 1;simp only[gc] at d1;have A6:=R.size;rw[HW.2.1] at A6;obtain⟨wo,rfl⟩:=eQ wr;have HO:=J5 R I hA e9 h8;clear R I J hA a1 e9 h8;go_wp2_with fail;go_loopg [60] c.Nl.length (fun g F2 wr=>∃(k:Nat) (vF:Value),k≤c.Nl.length∧g=c.Nl.length-k∧F2=.int .i64 k∧aa (fun b=>b≠w.heap.size+1+1+1) wo wr∧al wr (w.heap.size+1+1+1) 81 #[.slice C c.Nk.length cp,vF]∧Bq wo.heap.size wr vF ((c.Nl.mapIdx (aV p c.main)).take k)∧∀(i:Nat) b,i<k→c.Nl[i]? =some b→ly p b);·exact⟨0,_,by omega,by omega,rfl,kR,HO.2.1,cq.nil,fun i a h=>by omega⟩
 obtain⟨k,vF,hk,rfl,rfl,R,I,J,a1⟩:=hrel;have h8:aa All w wr:=dj (HW.2.2.1.all.trans ((HO.1.trans R).mono fun b Y=>by show b≠_;omega));have o7:=R.size;obtain⟨D,dp,rfl⟩:=J.form;have j2:((c.Nl.mapIdx (aV p c.main)).take k).length=k:=by rw[kQ,List.length_mapIdx];omega
 rw[j2] at J I;by_cases q6:k<c.Nl.length;·(
 obtain⟨b,Y⟩:=eG q6;have o3:=mG Y;obtain⟨bb,o,cs,rfl,E9,F0,a8,vb,rfl,A7,H0,H5⟩:=bh (HP.2.2.2.2.2.1 wr h8) Y;have x0:=a8 0 _ rfl;rw[cJ] at x0;have x1:=a8 1 _ rfl;have x2:=a8 2 _ rfl;have o9:=cu.la A7;obtain⟨A3,c3,rfl,n1,n2,n3,_⟩:=A7;unfold maxLen at n2;have zb:=HZ.2.Nm b o3;have zo:=HZ.2.ops b o3;have zx:=HZ.2.op b o3;obtain⟨W1,d7⟩:=eQ (wr.alloc (.cells #[.int .i64 b.params,.int .i64 b.vars,.slice A3 b.Nm.length c3] 35));have k1:aa All wr W1:=by rw[d7];exact kR.alloc _
 have b1:al W1 wr.heap.size 35 #[.int .i64 b.params,.int .i64 b.vars,.slice A3 b.Nm.length c3]:=by rw[d7];exact ac rfl
 have k5:W1.heap.size=wr.heap.size+1:=by rw[d7];simp
 obtain⟨wf,rfl⟩:=eQ wr;have HR:=J6 R I J a1 h8 Y;have H1:=J7 d7 k1 b1 k5 o9 zo zx;have HN:=oH (fun wn=>dB 102 (k:Int) (by unfold aS;omega) wn);clear a8 R I J a1 h8 Y d7 k1 b1 k5 o9 zo zx o3;go_upto_region 12 with fail;rw[←H1.1];go_wp2_with fail;refine(HN.out _).mono ?_;rintro e w2 ⟨rfl,b0⟩;have F3:=b0.size;rw[H1.2.2.2.1] at F3;obtain⟨W3,k2⟩:=eQ (w2.alloc (.cells #[.string (aG 102 (k:Int)),.slice none 0 0,.slice none 0 0,.int .i64 0] 148));have l4:aa All wf W3:=by rw[k2];exact(H1.2.1.trans b0).alloc _
 have b3:al W3 w2.heap.size 148 #[.string (aG 102 (k:Int)),.slice none 0 0,.slice none 0 0,.int .i64 0]:=by rw[k2];exact ac rfl
 have b1:al W3 wf.heap.size 35 #[.int .i64 b.params,.int .i64 b.vars,.slice A3 b.Nm.length c3]:=by rw[k2];exact(H1.2.2.1.kept b0 trivial).alloc _
 have A8:W3.heap.size=w2.heap.size+1:=by rw[k2];simp
 have H3:=J5 k2 l4 b3 b1 A8;clear b0 k2 l4 b3 b1 A8;go_upto_region 13 with fail;rw[←H3.1];have m2:=(((HP.2.1.kept HO.1 (by show _≠_;omega)).kept HR.1 (by show _≠_;omega)).kept H3.2.1 trivial).cell 2;simp only[gc] at m2;go_upto_if 71 with fail;obtain⟨FN,l5⟩:=eR (qZ c.main k);go_cut [] (fun wx=>aa (fun b=>b≠w2.heap.size) W3 wx∧al wx w2.heap.size 148 #[.string FN,.slice none 0 0,.slice none 0 0,.int .i64 0])
 case first=>(
 have q0:=H3.2.2.1.cell 0;have f0:=H3.2.2.1.free 0;simp only[gc] at q0;by_cases em:(k:Int)=c.main
 ·have tm:((k:Int)==c.main)=true:=by rw[cX];exact em
  have HE:=oH (show FN=⟨#[109,97,105,110]⟩ by rw[←l5];unfold qZ;simp[em,eO]);clear em l5;go_wp2_with fail;go_meet;exact⟨kR.setCell (.inl fun h=>h rfl) _,by rw[HE.out];simpa using H3.2.2.1.set 0 (.string ⟨#[109,97,105,110]⟩)⟩
 have tm:((k:Int)==c.main)=false:=by rw[bE];exact em
 have HE:=oH (show FN=aG 102 (k:Int) by rw[←l5];unfold qZ;simp[em]);clear em l5;go_wp2_with fail;go_meet;exact⟨kR,by rw[HE.out];exact H3.2.2.1⟩)
 obtain⟨o4,A9⟩:=hcut;have B0:=o4.size;rw[H3.2.2.2.2] at B0;have b1:=H3.2.2.2.1.kept o4 (by show _≠_;omega);have e0:=b1.cell 0;simp only[gc] at e0;have HX:=J3 o4 A9 b1;clear o4 A9 b1 m2;by_cases ok:0≤b.params∧b.params≤6;·(
 obtain⟨k6,q8⟩:=ok;have t1:decide (b.params<0)=false:=by simp;omega
 have t2:decide ((6:Int)<b.params)=false:=by simp;omega
 obtain⟨pn,F4⟩:∃pn:Nat,b.params.toNat=pn:=⟨_,rfl⟩;have HB:=J3 k6 q8 F4;go_wp2_with fail;go_loopg [84] pn (fun g F5 wr=>∃(j:Nat) (v1:Value),j≤pn∧g=pn-j∧F5=.int .i64 j∧aa (fun b=>b≠w2.heap.size) wc wr∧al wr w2.heap.size 148 #[.string FN,v1,.slice none 0 0,.int .i64 0]∧wr.ownsRow wc.heap.size 9 1 v1 j (cw ((List.range j).map fun(k:Nat)=>aG 118 k)));·exact⟨0,_,by omega,by omega,rfl,kR,HX.2.1,⟨rfl,.inl ⟨rfl,rfl⟩⟩⟩
 obtain⟨j,v1,hj,rfl,rfl,R,I,h0⟩:=hrel;have F6:=R.size;by_cases p5:j<pn;·(
 have t5:decide ((j:Int)<b.params)=true:=by simp;omega
 have hn:=fun wn=>dB 118 (j:Int) (by unfold aS;omega) wn;obtain⟨E1,ep,rfl⟩:=cd h0;have B1:∀wn,aa All wr wn→wn.cell? ⟨w2.heap.size,1,none⟩=some (.slice E1 j ep):=fun wn hk=>(I.kept hk trivial).cell 1;have B2:=J2 hn B1;have r4:=J3 R I h0;clear hn B1 R I h0;go_wp2_with fail;refine R1 5 wr [91] (fun _ v wn=>∃g,v=.slice (some ⟨g,0,none⟩) 1 1∧wr.heap.size≤g∧al wn g 9 #[.string (aG 118 (j:Int))]) (fun i=>if i=3 then some (·=.string (aG 118 (j:Int))) else if i=4 then some (fun v=>∃g,v=.slice (some ⟨g,0,none⟩) 1 1) else none) ?_;refine O0 ?_;refine O3 (fun wn hk hp=>by(have e1:=B2.2 wn hk;go_simp;with_reducible rfl)) ?_;refine O0 ?_;refine ug (v:=.string (aG 118 (j:Int))) (by rfl) (by rfl) (by rfl) (by intro d hd;cases hd;decide) (fun wn hk hp=>⟨_,_,by(go_simp<;>with_reducible rfl),(B2.1 wn).mono fun e w' h=>⟨h.1,hk.trans h.2,fun t _ v ⟨g,e,h1,h2⟩=>⟨g,e,h1,h2.kept h.2 trivial⟩⟩⟩) ?_;simp only[PS];refine O6 (fun wn hk hp=>?_) (fun wn hk hp=>?_) ?_
 ·go_simp
  exact⟨rfl,⟨_,rfl⟩,hk.alloc _,fun t _ v ⟨g,e,h1,h2⟩=>⟨g,e,h1,h2.alloc _⟩,fun d hd hT=>⟨_,rfl,hk.size,al.new _ _ _⟩⟩
 ·exact⟨.slice (some ⟨wn.heap.size,0,none⟩) 1 1,wn.alloc (.cells #[.string (aG 118 (j:Int))] 9),⟨_,rfl⟩,hk.alloc _,fun t _ v ⟨g,e,h1,h2⟩=>⟨g,e,h1,h2.alloc _⟩,fun d hd hT=>⟨_,rfl,hk.size,al.new _ _ _⟩⟩
 rintro v ⟨g,rfl⟩;simp only[PS];refine aD fun wt d8 hF=>?_;obtain⟨g',e,F1,k7⟩:=hF 91 (by simp) _ rfl;iterate 3 injection e with e
 subst e;simp only[dK];have j3:=ay r4.2.2 d8 (fun _ _=>trivial);have d9:=r4.2.1.kept d8 trivial;have j7:=k7.cell 0;have o8:=d8.size;simp only[gc] at j7;have HT:=J3 d8 d9 j7;clear d8 d9 k7 hF;go_wp2_with (
  at_builtin;go_loud (
  refine cW _ rfl (.tmp 88) (.tmp 91) 22 rfl wc.heap.size 9 iS _ 1 16 underlying22 IS.1 IS.2.1 IS.2.2.1 IS.2.2.2 rfl (by decide) _ _ _ rfl j3 (some ⟨g,0,none⟩) 1 1 [.string (aG 118 (j:Int))] rfl rfl ?_ ?_ (by unfold maxLen;omega) (by omega) (by omega) ?_;·(
 intro _;exact⟨_,_,rfl,fun j u hu=>by
  rcases j with _|j;·rw[dU,HT.2.2];exact hu
  simp at hu⟩)
  ·intro u hu
   rw[ce.1 hu];rfl
  intro v2 w4 j4 b2 p6;obtain⟨C2,k8,rfl⟩:=cd j4;have j8:=HT.2.1.grown b2 (fun e=>by have:=(au j3 e.symm).1;omega);have y5:=j8.cell 1;have f5:=j8.free 1;simp only[gc] at y5;have H2:=J4 j8 j4 b2 p6;clear j8 j4 b2 p6))
 go_roundg (pn-(j+1))
 ·refine⟨j+1,.slice C2 (j+1) k8,by omega,rfl,by go_num,(((r4.1.trans HT.1.all).grown H2.2.2.1 fun b Y=>.inr (au j3 Y).1).setCell (.inl fun h=>h rfl) _),?_,?_⟩
  ·have:=H2.1.set 1 (.slice C2 (j+1) k8)
   simpa using this
  have e:cw ((List.range (j+1)).map fun(k:Nat)=>aG 118 k)=cw ((List.range j).map fun(k:Nat)=>aG 118 k)++[.string (aG 118 (j:Int))]:=by rw[List.range_succ];simp[cw]
  rw[e];exact ay H2.2.1 ((aa.refl (fun b=>b≠w2.heap.size) _).setCell (.inl fun h=>h rfl) _) fun b Y=>by have:=(au H2.2.1 Y).1;show b≠_;omega
 omega)
 obtain rfl:pn=j:=by omega
 have t5:decide ((pn:Int)<b.params)=false:=by simp;omega
 have B3:=rM (pX (S:=fun b=>wc.heap.size≤b) h0 (l:=(List.range pn).map fun(k:Nat)=>aG 118 k) (by simp) (by simp;omega) fun g hg=>(au h0 hg).1);obtain⟨E1,ep,rfl⟩:=cd h0;have b1:=HX.2.2.kept R (by show _≠_;omega);have e2:=b1.cell 2;simp only[gc] at e2;obtain⟨wp,rfl⟩:=eQ wr;have o5:=J3 R I B3;clear R I B3 h0 b1;go_wp2_with fail;go_loopg [98] b.Nm.length (fun g F7 wr=>∃(j:Nat) (vB:Value),j≤b.Nm.length∧g=b.Nm.length-j∧F7=.int .i64 j∧aa (fun b=>b≠w2.heap.size) wp wr∧al wr w2.heap.size 148 #[.string FN,.slice E1 pn ep,vB,.int .i64 0]∧xp wp.heap.size wr vB ((b.Nm.mapIdx (du p c.main)).take j)∧∀(i:Nat) l,i<j→b.Nm[i]? =some l→∀x∈l,cQ p x);·exact⟨0,_,by omega,by omega,rfl,kR,o5.2.1,cq.nil,fun i a h=>by omega⟩
 obtain⟨j,vB,hj,rfl,rfl,R,I,J,a1⟩:=hrel;have F8:=R.size;obtain⟨E2,bp,rfl⟩:=J.form;have l6:((b.Nm.mapIdx (du p c.main)).take j).length=j:=by rw[kQ,List.length_mapIdx];omega
 rw[l6] at J I;by_cases p5:j<b.Nm.length;·(
 obtain⟨l,hl⟩:=eG p5;have r5:=mG hl;have b5:aa (fun b=>b≠w2.heap.size) wf wr:=(H3.2.1.all.trans HX.1).trans (o5.1.trans R);have j5:aa All wf wr:=dj (b5.mono fun b Y=>by show b≠_;omega);obtain⟨lb,lo,lv,rfl,H8,I0,B4⟩:=de (H1.2.2.2.2.1 wr j5) hl;have p7:=ez.la B4;obtain⟨A4,c4,rfl,z1,z2,z3,_⟩:=B4;unfold maxLen at z2;have zl:=H1.2.2.2.2.2.1 l r5;have zy:=H1.2.2.2.2.2.2 l r5;have F9:=oH (fun wn=>dB 98 (j:Int) (by unfold aS;omega) wn);obtain⟨wb,rfl⟩:=eQ wr;have c8:=J9 R I J a1 hl p7 zy b5 j5;clear R I J a1 hl p7 zy b5 j5 r5;go_wp2_with fail;refine(F9.out _).mono ?_;rintro e w5 ⟨rfl,r6⟩;have I1:=r6.size;obtain⟨W6,l7⟩:=eQ (w5.alloc (.cells #[.string (aG 98 (j:Int)),.slice none 0 0,.int .i64 0] 171));have B5:aa All wb W6:=by rw[l7];exact r6.alloc _
 have b6:al W6 w5.heap.size 171 #[.string (aG 98 (j:Int)),.slice none 0 0,.int .i64 0]:=by rw[l7];exact ac rfl
 have r7:W6.heap.size=w5.heap.size+1:=by rw[l7];simp
 have H6:=J4 l7 B5 b6 r7;clear r6 l7 B5 b6 r7;go_upto_region 26 with fail;rw[←H6.1];go_wp2_with fail;go_loopg [108] l.length (fun g B6 wr=>∃(i:Nat) (vI:Value),i≤l.length∧g=l.length-i∧B6=.int .i64 i∧aa (fun b=>b≠w5.heap.size) W6 wr∧al wr w5.heap.size 171 #[.string (aG 98 (j:Int)),vI,.int .i64 0]∧EI W6.heap.size wr vI ((l.map (iP p c.main)).take i)∧∀(i':Nat) x,i'<i→l[i']? =some x→cQ p x);·exact⟨0,_,by omega,by omega,rfl,kR,H6.2.2.1,cq.nil,fun i a h=>by omega⟩
 obtain⟨i,vI,hi,rfl,rfl,R,I,J,a1⟩:=hrel;have r8:=R.size;rw[H6.2.2.2] at r8;obtain⟨E3,ip,rfl⟩:=J.form;have l8:((l.map (iP p c.main)).take i).length=i:=by rw[kQ,aZ];omega
 rw[l8] at J I;by_cases B7:i<l.length;·(
 obtain⟨x,hx⟩:=eG B7;have B8:=mG hx;have b5:aa (fun b=>b≠w5.heap.size) wb wr:=H6.2.1.all.trans R;have j5:aa All wb wr:=dj (b5.mono fun b Y=>by show b≠_;omega);have l9:aa All wf wr:=c8.2.2.2.2.2.2.2.2.trans j5;have r9:aa All w wr:=HR.2.2.2.2.1.trans l9;obtain⟨xb,xo,I2,rfl,I3,G5,h9,xa,xf,rfl,B9,C0,G0⟩:=bh (c8.2.2.2.2.2.1 wr j5) hx;have C1:=ae.la B9;have C3:=ae.la C0;obtain⟨C4,C5,rfl,_⟩:=B9;obtain⟨C6,C7,rfl,_⟩:=C0;have z0:=h9 0 _ rfl;rw[cJ] at z0;have z1:=h9 1 _ rfl;have z2:=h9 2 _ rfl;have z3:=h9 3 _ rfl;have z4:=h9 4 _ rfl;have z5:=h9 5 _ rfl;have z6:=h9 6 _ rfl;have z7:=h9 7 _ rfl;have z8:=h9 8 _ rfl;obtain⟨W7,n0⟩:=eQ (wr.alloc (.cells #[.int .u8 x.kind,.int .u8 x.op,.int .i64 x.dst,.int .i64 x.ref,.int .i64 x.No,.slice C4 x.args.length C5,.slice C6 x.Nn.length C7,.int .i64 x.num,.int .i64 x.Np] 40));have j6:aa All wr W7:=by rw[n0];exact kR.alloc _
 have b7:al W7 wr.heap.size 40 #[.int .u8 x.kind,.int .u8 x.op,.int .i64 x.dst,.int .i64 x.ref,.int .i64 x.No,.slice C4 x.args.length C5,.slice C6 x.Nn.length C7,.int .i64 x.num,.int .i64 x.Np]:=by rw[n0];exact ac rfl
 have s0:W7.heap.size=wr.heap.size+1:=by rw[n0];simp
 have k3:=(((HP.1.kept HO.1 (by show _≠_;omega)).kept HR.1 (by show _≠_;omega)).kept l9 trivial).kept j6 trivial;have o6:=(((HP.2.1.kept HO.1 (by show _≠_;omega)).kept HR.1 (by show _≠_;omega)).kept l9 trivial).kept j6 trivial;have p0:=k3.cell 0;have p1:=k3.cell 1;have p2:=k3.cell 2;have p3:=k3.cell 3;have p4:=k3.cell 4;have d0:=o6.cell 0;have d1:=o6.cell 1;have d2:=o6.cell 2;have e0:=b7.cell 0;have e1:=b7.cell 1;have e2:=b7.cell 2;have e3:=b7.cell 3;have e4:=b7.cell 4;have e5:=b7.cell 5;have e6:=b7.cell 6;have e7:=b7.cell 7;have e8:=b7.cell 8;simp only[gc] at p0 p1 p2 p3 p4 d0 d1 d2 e0 e1 e2 e3 e4 e5 e6 e7 e8;have C8:=AI S _ p (.slice A1 c.Nk.length c1) (.slice (some ⟨bb,o,none⟩) c.Nl.length c2) c.main _ _ x W7 (HP.2.2.1 W7 (r9.trans j6)) (C1 W7 j6) (C3 W7 j6) G0 (c8.2.2.2.2.2.2.1 x B8) HZ.1;have c6:=J7 R I J a1 hx l9 r9;have H7:=J4 n0 j6 C8 s0;clear R I J a1 b5 j5 l9 r9 h9 C1 C3 n0 j6 b7 s0 k3 o6 C8 hx B8;go_upto_region 29 with fail;rw[←H7.1];go_wp2_with fail;refine H7.2.2.1.mono ?_;rintro e w8 ⟨u,C9,rfl,p8,D0,dd,rr,tt,ia,n4,ik,ja,jn,jk,rfl,hI⟩;have D1:=oH p8;clear p8;have G1:=D0.size;rw[H7.2.2.2] at G1;obtain⟨i6,j0⟩:=eQ (w8.alloc (.cells #[.int .u8 x.kind,.int .u8 x.op,.string dd,.string rr,.string tt,.slice ia n4 ik,.slice ja jn jk,.int .i64 x.num,.int .i64 x.Np] 185));have n5:aa All w8 i6:=by rw[j0];exact kR.alloc _
 have D3:al i6 w8.heap.size 185 #[.int .u8 x.kind,.int .u8 x.op,.string dd,.string rr,.string tt,.slice ia n4 ik,.slice ja jn jk,.int .i64 x.num,.int .i64 x.Np]:=by rw[j0];exact ac rfl
 have n6:i6.heap.size=w8.heap.size+1:=by rw[j0];simp
 have n7:aa All wr i6:=(H7.2.1.trans D0).trans n5;have b4:=J5 j0 n5 D3 n6 n7;clear p0 p1 p2 p3 p4 d0 d1 d2 e0 e1 e2 e3 e4 e5 e6 e7 e8 z0 z1 z2 z3 z4 z5 z6 z7 z8;clear j0 n5 D3 n6 n7;go_upto_region 30 with fail;rw[←b4.1];by_cases h4:cQ p x;·(
 have tb:C9=true:=by rw[D1.out];exact aw h4
 have HI:=J2 h4 (Jh (hI h4));clear hI h4;subst tb;have y1:=(c6.2.1.kept b4.2.2.2.2 trivial).cell 1;have g0:=b4.2.2.1.cell 0;have g1:=b4.2.2.1.cell 1;have g2:=b4.2.2.1.cell 2;have g3:=b4.2.2.1.cell 3;have g4:=b4.2.2.1.cell 4;have g5:=b4.2.2.1.cell 5;have g6:=b4.2.2.1.cell 6;have g7:=b4.2.2.1.cell 7;have g8:=b4.2.2.1.cell 8;simp only[gc] at y1 g0 g1 g2 g3 g4 g5 g6 g7 g8;obtain⟨n8,i1⟩:=eQ (i6.alloc (.cells #[.int .u8 x.kind,.int .u8 x.op,.string dd,.string rr,.string tt,.slice ia n4 ik,.slice ja jn jk,.int .i64 x.num,.int .i64 x.Np] 185));have j9:aa All wr n8:=by rw[i1];exact b4.2.2.2.2.alloc _
 have p9:aa All w8 n8:=by rw[i1];exact b4.2.1.alloc _
 have D4:al n8 i6.heap.size 185 #[.int .u8 x.kind,.int .u8 x.op,.string dd,.string rr,.string tt,.slice ia n4 ik,.slice ja jn jk,.int .i64 x.num,.int .i64 x.Np]:=by rw[i1];exact ac rfl
 have G6:n8.heap.size=i6.heap.size+1:=by rw[i1];simp
 have n6:=dY b4.2.2.2.1;have G2:=dY b4.2.2.2.1.symm;have k0:EI W6.heap.size n8 (.slice E3 i ip) ((l.map (iP p c.main)).take i):=c6.2.2.1.keep fS j9 fun _ _ _=>trivial;have q5:=c6.2.1.kept j9 trivial;have k4:=J6 i1 j9 D4 q5 k0 (fS.keep p9.all HI.2);clear i1 j9 D4 q5 k0 p9;have s0:=dY H7.2.2.2;have G7:=dY H7.2.2.2.symm;have r7:=dY H6.2.2.2;have G8:=dY H6.2.2.2.symm;go_wp2_with (
  at_builtin;go_loud (
  rw[←k4.1];refine bC (E:=rV) _ fS rfl (.tmp 123) (.tmp 125) 169 rfl iI _ 120 underlying169 II.1 II.2.1 II.2.2.1 II.2.2.2 rfl (by decide) _ _ rfl k4.2.2.2.2.1 i6.heap.size 0 1 rfl [.int .u8 x.kind,.int .u8 x.op,.string dd,.string rr,.string tt,.slice ia n4 ik,.slice ja jn jk,.int .i64 x.num,.int .i64 x.Np] (iP p c.main x) rfl ?_ ?_ (by rw[l8];omega) (by omega) ?_ (fun b=>W7.heap.size≤b∧b<w8.heap.size) ?_ ?_ ?_;·intro j u hu;rw[dU,k4.2.2.1.cell,List.getElem?_toArray];exact hu
  ·intro u hu;simp only[fV,List.not_mem_nil,or_false] at hu;rcases hu with rfl|rfl|rfl|rfl|rfl|rfl|rfl|rfl|rfl<;>rfl
  ·omega
  ·intro b Y;have D5:W7.heap.size≤b∧b<w8.heap.size:=Y;obtain⟨_,n9⟩:=c6.2.2.1.own;exact⟨by omega,by omega,fun e=>by have:=(au n9 e).2;omega⟩
  ·exact k4.2.2.2.2.2
  intro D2 j1 w4 b8 b2 c5;have c7:=k4.2.2.2.1.grown b2 (fun e=>by have:=c5 _ e.symm;omega);have u1:=c7.cell 1;have v1:=c7.free 1;simp only[gc] at u1;have H4:=J4 c7 b8 b2 c5;clear c7 b8 b2 c5))
 go_roundg (l.length-(i+1))
 ·refine⟨i+1,.slice D2 (i+1) j1,by omega,rfl,by go_num,((c6.1.trans k4.2.1.all).grown H4.2.2.1 fun b Y=>.inr (H4.2.2.2 b Y)).setCell (.inl fun h=>h rfl) _,by simpa using H4.1.set 1 (.slice D2 (i+1) j1),?_,fun i' y hi hy=>?_⟩
  ·have e:(l.map (iP p c.main)).take (i+1)=(l.map (iP p c.main)).take i++[iP p c.main x]:=by rw[dT,cy,c6.2.2.2.2.1];rfl
   rw[e];have h3:=H4.2.1;rw[l8] at h3;exact h3.keep fS ((aa.refl (fun b=>b≠w5.heap.size) _).setCell (.inl fun h=>h rfl) _) fun b Y l0=>by show b≠_;omega
  by_cases e:i'=i;·subst e;rw[c6.2.2.2.2.1] at hy;injection hy with hy;subst hy;exact HI.1
  exact c6.2.2.2.1 i' y (by omega) hy
 omega)
 have tb:C9=false:=by rw[D1.out];exact az h4
 have HI:=oH h4;clear hI h4;subst tb;have o0:=((HR.2.1.kept c6.2.2.2.2.2.1 trivial).kept b4.2.2.2.2 trivial).cell 0;have o1:=((HR.2.1.kept c6.2.2.2.2.2.1 trivial).kept b4.2.2.2.2 trivial).cell 1;have a6:=(((HW.2.2.2.2.kept HO.1 (by show _≠_;omega)).kept HR.1 (by show _≠_;omega)).kept c6.2.2.2.2.2.1 trivial).kept b4.2.2.2.2 trivial;have r0:=a6.cell 0;have r1:=a6.cell 1;have f0:=a6.free 0;have f1:=a6.free 1;have b0:=((((c6.2.2.2.2.2.2.trans b4.2.2.2.2).all:aa (fun b=>b<w.heap.size) w i6)).setCell (p:=⟨w.heap.size+1+1,0,none⟩) (.inl (by show¬(w.heap.size+1+1<w.heap.size);omega)) (.slice C c.Nk.length cp)).setCell (p:=⟨w.heap.size+1+1,1,none⟩) (.inl (by show¬(w.heap.size+1+1<w.heap.size);omega)) (.slice D k dp);have a7:=(a6.set 0 (.slice C c.Nk.length cp)).set 1 (.slice D k dp);have g0:=a7.cell 0;have g1:=a7.cell 1;simp only[ga,gc] at o0 o1 r0 r1 g0 g1;have HK:=oH b0;clear b0 a7 a6;go_wp2_with fail;refine bodyPost_ret (v:=.tuple #[.agg #[.slice C c.Nk.length cp,.slice D k dp],.bool false]) (by simp[results,Tryz.f53,go_sem,g0,g1]) rfl ⟨_,_,_,_,_,_,false,rfl,(az fun h=>?_).symm,dj HK.out,fun h=>?_⟩;·exact(HI.out ((h.2 b (mG HR.2.2.2.2.2)).2.2 l (mG c8.2.2.2.2.1) x (mG c6.2.2.2.2.1))).elim
 exact(HI.out ((h.2 b (mG HR.2.2.2.2.2)).2.2 l (mG c8.2.2.2.2.1) x (mG c6.2.2.2.2.1))).elim)
 obtain rfl:i=l.length:=by omega
 rw[oz (by rw[aZ];omega)] at J;have o2:=J.read (bw:=120) fS (by rw[aZ];omega);have b5:aa (fun b=>b≠w5.heap.size) wb wr:=H6.2.1.all.trans R;have h5:∀x∈l,cQ p x:=fun x hx=>by obtain⟨i,hi⟩:=List.getElem?_of_mem hx;exact a1 i x (lS.1 hi).1 hi
 have o1:=(c8.2.1.kept b5 (by show _≠_;omega)).cell 2;have y0:=I.cell 0;have y1:=I.cell 1;have y2:=I.cell 2;simp only[gc] at o1 y0 y1 y2;obtain⟨W9,h6⟩:=eQ (wr.alloc (.cells #[.string (aG 98 (j:Int)),.slice E3 l.length ip,.int .i64 0] 171));have c9:aa All wr W9:=by rw[h6];exact kR.alloc _
 have b9:al W9 wr.heap.size 171 #[.string (aG 98 (j:Int)),.slice E3 l.length ip,.int .i64 0]:=by rw[h6];exact ac rfl
 have G3:W9.heap.size=wr.heap.size+1:=by rw[h6];simp
 have h7:xp wp.heap.size W9 (.slice E2 j bp) ((b.Nm.mapIdx (du p c.main)).take j):=c8.2.2.1.keep cn (b5.trans c9.all) fun b Y l0=>by show b≠_;omega
 have D6:=(c8.2.1.kept b5 (by show _≠_;omega)).kept c9 trivial;have D7:gO (fun b=>w5.heap.size+1≤b∧b<wr.heap.size) W9 [.string (aG 98 (j:Int)),.slice E3 l.length ip,.int .i64 0] (du p c.main j l):=Fb (fK.keep c9.all (fK.wide (fun b (Y:W6.heap.size≤b∧b<wr.heap.size)=>by have:=H6.2.2.2;omega) o2));have H9:=J8 h6 c9 b9 D6 h7 D7 b5 h5;clear h6 c9 b9 D6 h7 D7 b5 h5 a1 J o2 R I;go_wp2_with (
  at_builtin;go_loud (
  rw[←H9.1];refine bC (E:=gO) _ cn rfl (.tmp 130) (.tmp 132) 146 rfl iB _ 48 underlying146 IB.1 IB.2.1 IB.2.2.1 IB.2.2.2 rfl (by decide) _ _ rfl H9.2.2.2.2.1 wr.heap.size 0 1 rfl [.string (aG 98 (j:Int)),.slice E3 l.length ip,.int .i64 0] (du p c.main j l) rfl ?_ ?_ (by rw[l6];omega) (by omega) ?_ (fun b=>w5.heap.size+1≤b∧b<wr.heap.size) ?_ ?_ ?_;·intro j u hu;rw[dU,H9.2.2.1.cell,List.getElem?_toArray];exact hu
  ·intro u hu;simp only[fV,List.not_mem_nil,or_false] at hu;rcases hu with rfl|rfl|rfl<;>rfl
  ·omega
  ·intro b Y;have D5:w5.heap.size+1≤b∧b<wr.heap.size:=Y;obtain⟨_,n9⟩:=c8.2.2.1.own;exact⟨by omega,by omega,fun e=>by have:=(au n9 e).2;omega⟩
  ·exact H9.2.2.2.2.2.1
  intro D2 j1 w4 b8 b2 c5;have c7:=H9.2.2.2.1.grown b2 (fun e=>by have:=c5 _ e.symm;omega);have u1:=c7.cell 2;have v1:=c7.free 2;simp only[gc] at u1;have H4:=J4 c7 b8 b2 c5;clear c7 b8 b2 c5))
 go_roundg (b.Nm.length-(j+1))
 ·refine⟨j+1,.slice D2 (j+1) j1,by omega,rfl,by go_num,ym ((((c8.1.mono fun b (Y:b≠w2.heap.size∧b<wp.heap.size)=>Y.1).trans ((H9.2.2.2.2.2.2.1.trans H9.2.1.all).mono fun b (Y:b≠w2.heap.size∧b<wp.heap.size)=>by show b≠_;omega)).grown H4.2.2.1 fun b Y=>.inr (by have:=H4.2.2.2 b Y;omega)).setCell (.inl fun h=>h.1 rfl) _),by simpa using H4.1.set 2 (.slice D2 (j+1) j1),?_,fun i x hi hx=>?_⟩
  ·rw[tP c8.2.2.2.2.1]
   have h3:=H4.2.1;rw[l6] at h3;exact h3.keep cn ((aa.refl (fun b=>b≠w2.heap.size) _).setCell (.inl fun h=>h rfl) _) fun b Y l0=>by show b≠_;omega
  by_cases e:i=j;·subst e;rw[c8.2.2.2.2.1] at hx;injection hx with hx;subst hx;exact H9.2.2.2.2.2.2.2
  exact c8.2.2.2.1 i x (by omega) hx
 omega)
 obtain rfl:j=b.Nm.length:=by omega
 rw[oz (by rw[List.length_mapIdx];omega)] at J;have o2:=J.read (bw:=48) cn (by rw[List.length_mapIdx];omega);have b5:aa (fun b=>b≠w2.heap.size) wf wr:=(H3.2.1.all.trans HX.1).trans (o5.1.trans R);have h5:ly p b:=⟨HB.1,HB.2.1,fun l hl=>by obtain⟨i,hi⟩:=List.getElem?_of_mem hl;exact a1 i l (lS.1 hi).1 hi⟩;have o1:=(HR.2.1.kept b5 (by show _≠_;omega)).cell 1;have y0:=I.cell 0;have y1:=I.cell 1;have y2:=I.cell 2;have y3:=I.cell 3;simp only[gc] at o1 y0 y1 y2 y3;obtain⟨W9,h6⟩:=eQ (wr.alloc (.cells #[.string FN,.slice E1 pn ep,.slice E2 b.Nm.length bp,.int .i64 0] 148));have c9:aa All wr W9:=by rw[h6];exact kR.alloc _
 have b9:al W9 wr.heap.size 148 #[.string FN,.slice E1 pn ep,.slice E2 b.Nm.length bp,.int .i64 0]:=by rw[h6];exact ac rfl
 have G3:W9.heap.size=wr.heap.size+1:=by rw[h6];simp
 have h7:Bq wo.heap.size W9 (.slice D k dp) ((c.Nl.mapIdx (aV p c.main)).take k):=HR.2.2.1.keep eE (b5.trans c9.all) fun b Y l0=>by show b≠_;omega
 have D8:=(HR.2.1.kept b5 (by show _≠_;omega)).kept c9 trivial;have D9:mw (fun b=>w2.heap.size+1≤b∧b<wr.heap.size) W9 [.string FN,.slice E1 pn ep,.slice E2 b.Nm.length bp,.int .i64 0] (aV p c.main k b):=by refine Iw l5 (by rw[HB.2.2];exact ap.keep c9.all (ap.keep (R.mono fun b (Y:w2.heap.size+1≤b∧b<wr.heap.size)=>by show b≠_;omega) (ap.wide (fun b (Y:wc.heap.size≤b∧b<wp.heap.size)=>by omega) o5.2.2))) (dg.keep c9.all ?_);exact dg.wide (fun b (Y:wp.heap.size≤b∧b<wr.heap.size)=>by omega) o2
 have H9:=J8 h6 c9 b9 D8 h7 D9 b5 h5;clear h6 c9 b9 D8 h7 D9 b5 h5 a1 J o2 R I;go_wp2_with (
  at_builtin;go_loud (
  rw[←H9.1];refine bC (E:=mw) _ eE rfl (.tmp 137) (.tmp 139) 79 rfl iF _ 72 underlying79 IF.1 IF.2.1 IF.2.2.1 IF.2.2.2 rfl (by decide) _ _ rfl H9.2.2.2.2.1 wr.heap.size 0 1 rfl [.string FN,.slice E1 pn ep,.slice E2 b.Nm.length bp,.int .i64 0] (aV p c.main k b) rfl ?_ ?_ (by rw[j2];omega) (by omega) ?_ (fun b=>w2.heap.size+1≤b∧b<wr.heap.size) ?_ ?_ ?_;·intro j u hu;rw[dU,H9.2.2.1.cell,List.getElem?_toArray];exact hu
  ·intro u hu;simp only[fV,List.not_mem_nil,or_false] at hu;rcases hu with rfl|rfl|rfl|rfl<;>rfl
  ·omega
  ·intro b Y;have D5:w2.heap.size+1≤b∧b<wr.heap.size:=Y;obtain⟨_,n9⟩:=HR.2.2.1.own;exact⟨by omega,by omega,fun e=>by have:=(au n9 e).2;omega⟩
  ·exact H9.2.2.2.2.2.1
  intro D2 j1 w4 b8 b2 c5;have c7:=H9.2.2.2.1.grown b2 (fun e=>by have:=c5 _ e.symm;omega);have u1:=c7.cell 1;have v1:=c7.free 1;simp only[gc] at u1;have H4:=J4 c7 b8 b2 c5;clear c7 b8 b2 c5))
 go_roundg (c.Nl.length-(k+1))
 ·refine⟨k+1,.slice D2 (k+1) j1,by omega,rfl,by go_num,ym ((((HR.1.mono fun b (Y:b≠w.heap.size+1+1+1∧b<wo.heap.size)=>Y.1).trans ((H9.2.2.2.2.2.2.1.trans H9.2.1.all).mono fun b (Y:b≠w.heap.size+1+1+1∧b<wo.heap.size)=>by show b≠_;omega)).grown H4.2.2.1 fun b Y=>.inr (by have:=H4.2.2.2 b Y;omega)).setCell (.inl fun h=>h.1 rfl) _),by simpa using H4.1.set 1 (.slice D2 (k+1) j1),?_,fun i x hi hx=>?_⟩
  ·rw[tP HR.2.2.2.2.2]
   have h3:=H4.2.1;rw[j2] at h3;exact h3.keep eE ((aa.refl (fun b=>b≠w.heap.size+1+1+1) _).setCell (.inl fun h=>h rfl) _) fun b Y l0=>by show b≠_;omega
  by_cases e:i=k;·subst e;rw[HR.2.2.2.2.2] at hx;injection hx with hx;subst hx;exact H9.2.2.2.2.2.2.2
  exact HR.2.2.2.1 i x (by omega) hx
 omega)
 by_cases k6:b.params<0
 ·have t1:decide (b.params<0)=true:=by simp;omega
  have o0:=((HR.2.1.kept H3.2.1 trivial).kept HX.1 (by show _≠_;omega)).cell 0;have o1:=((HR.2.1.kept H3.2.1 trivial).kept HX.1 (by show _≠_;omega)).cell 1;have a6:=(((HW.2.2.2.2.kept HO.1 (by show _≠_;omega)).kept HR.1 (by show _≠_;omega)).kept H3.2.1 trivial).kept HX.1 (by show _≠_;omega);have r0:=a6.cell 0;have r1:=a6.cell 1;have f0:=a6.free 0;have f1:=a6.free 1;have b0:=((((HR.2.2.2.2.1.all.trans H3.2.1.all).trans (HX.1.mono fun b (Y:b<w.heap.size)=>by show b≠_;omega):aa (fun b=>b<w.heap.size) w wc)).setCell (p:=⟨w.heap.size+1+1,0,none⟩) (.inl (by show¬(w.heap.size+1+1<w.heap.size);omega)) (.slice C c.Nk.length cp)).setCell (p:=⟨w.heap.size+1+1,1,none⟩) (.inl (by show¬(w.heap.size+1+1<w.heap.size);omega)) (.slice D k dp);have a7:=(a6.set 0 (.slice C c.Nk.length cp)).set 1 (.slice D k dp);have g0:=a7.cell 0;have g1:=a7.cell 1;simp only[ga,gc] at o0 o1 r0 r1 g0 g1;have HK:=oH b0;clear b0 a7 a6;go_wp2_with fail;refine bodyPost_ret (v:=.tuple #[.agg #[.slice C c.Nk.length cp,.slice D k dp],.bool false]) (by simp[results,Tryz.f53,go_sem,g0,g1]) rfl ⟨_,_,_,_,_,_,false,rfl,(az fun h=>?_).symm,dj HK.out,fun h=>?_⟩
  ·have:=(h.2 b (mG HR.2.2.2.2.2)).1
   have:=(h.2 b (mG HR.2.2.2.2.2)).2.1;omega
  have:=(h.2 b (mG HR.2.2.2.2.2)).1;have:=(h.2 b (mG HR.2.2.2.2.2)).2.1;omega
 have t1:decide (b.params<0)=false:=by simp;omega
 have t2:decide ((6:Int)<b.params)=true:=by simp;omega
 have o0:=((HR.2.1.kept H3.2.1 trivial).kept HX.1 (by show _≠_;omega)).cell 0;have o1:=((HR.2.1.kept H3.2.1 trivial).kept HX.1 (by show _≠_;omega)).cell 1;have a6:=(((HW.2.2.2.2.kept HO.1 (by show _≠_;omega)).kept HR.1 (by show _≠_;omega)).kept H3.2.1 trivial).kept HX.1 (by show _≠_;omega);have r0:=a6.cell 0;have r1:=a6.cell 1;have f0:=a6.free 0;have f1:=a6.free 1;have b0:=((((HR.2.2.2.2.1.all.trans H3.2.1.all).trans (HX.1.mono fun b (Y:b<w.heap.size)=>by show b≠_;omega):aa (fun b=>b<w.heap.size) w wc)).setCell (p:=⟨w.heap.size+1+1,0,none⟩) (.inl (by show¬(w.heap.size+1+1<w.heap.size);omega)) (.slice C c.Nk.length cp)).setCell (p:=⟨w.heap.size+1+1,1,none⟩) (.inl (by show¬(w.heap.size+1+1<w.heap.size);omega)) (.slice D k dp);have a7:=(a6.set 0 (.slice C c.Nk.length cp)).set 1 (.slice D k dp);have g0:=a7.cell 0;have g1:=a7.cell 1;simp only[ga,gc] at o0 o1 r0 r1 g0 g1;have HK:=oH b0;clear b0 a7 a6;go_wp2_with fail;refine bodyPost_ret (v:=.tuple #[.agg #[.slice C c.Nk.length cp,.slice D k dp],.bool false]) (by simp[results,Tryz.f53,go_sem,g0,g1]) rfl ⟨_,_,_,_,_,_,false,rfl,(az fun h=>?_).symm,dj HK.out,fun h=>?_⟩
 ·have:=(h.2 b (mG HR.2.2.2.2.2)).1
  have:=(h.2 b (mG HR.2.2.2.2.2)).2.1;omega
 have:=(h.2 b (mG HR.2.2.2.2.2)).1;have:=(h.2 b (mG HR.2.2.2.2.2)).2.1;omega)
 obtain rfl:k=c.Nl.length:=by omega
 rw[oz (by rw[List.length_mapIdx];omega)] at J;have e9:∀b∈c.Nl,ly p b:=fun a ha=>by obtain⟨i,hi⟩:=List.getElem?_of_mem ha;exact a1 i a (lS.1 hi).1 hi
 have hF:=J.read (bw:=72) eE (by rw[List.length_mapIdx];omega);have o0:=I.cell 0;have o1:=I.cell 1;have a6:=(HW.2.2.2.2.kept HO.1 (by show _≠_;omega)).kept R (by show _≠_;omega);have r0:=a6.cell 0;have r1:=a6.cell 1;have f0:=a6.free 0;have f1:=a6.free 1;have b0:=(((HO.1.trans R).mono fun b (Y:b≠w.heap.size+1+1+1∧b≠w.heap.size+1+1)=>Y.1).setCell (p:=⟨w.heap.size+1+1,0,none⟩) (.inl fun h=>h.2 rfl) (.slice C c.Nk.length cp)).setCell (p:=⟨w.heap.size+1+1,1,none⟩) (.inl fun h=>h.2 rfl) (.slice D c.Nl.length dp);have l4:=((aa.refl (fun b=>w.heap.size+4≤b) wr).setCell (p:=⟨w.heap.size+1+1,0,none⟩) (.inl (by show¬(w.heap.size+4≤w.heap.size+1+1);omega)) (.slice C c.Nk.length cp)).setCell (p:=⟨w.heap.size+1+1,1,none⟩) (.inl (by show¬(w.heap.size+4≤w.heap.size+1+1);omega)) (.slice D c.Nl.length dp);have a7:=(a6.set 0 (.slice C c.Nk.length cp)).set 1 (.slice D c.Nl.length dp);have g0:=a7.cell 0;have g1:=a7.cell 1;simp only[ga,gc] at o0 o1 r0 r1 g0 g1;have HX:=J5 b0 l4 R hF e9;clear b0 l4 R hF e9 a1 J a7 I a6 h8 d1;go_wp2_with fail;refine bodyPost_ret (v:=.tuple #[.agg #[.slice C c.Nk.length cp,.slice D c.Nl.length dp],.bool true]) (by simp[results,Tryz.f53,go_sem,g0,g1]) rfl ⟨_,_,_,_,_,_,true,rfl,(aw (P:=pi p c) ⟨HO.2.2.2.1,HX.2.2.2.2⟩).symm,dj (HW.2.2.1.all.trans (HX.1.mono fun b Y=>by constructor<;>(show b≠_)<;>omega)),fun _=>⟨_,_,rfl,?_,?_⟩⟩;·exact kZ.wide (fun b Y=>by have:w.heap.size+4≤b∧b<wo.heap.size:=Y;have:=HX.2.1.size;have:=HX.2.2.1.size;omega) (kZ.keep ((HX.2.2.1.mono fun b (Y:w.heap.size+4≤b∧b<wo.heap.size)=>by show b≠_;omega).trans (HX.2.1.mono fun b Y=>Y.1)) HO.2.2.1)
 exact gd.wide (fun b Y=>by have:wo.heap.size≤b∧b<wr.heap.size:=Y;have:=HX.2.1.size;have:=HX.2.2.1.size;omega) (gd.keep (HX.2.1.mono fun b (Y:wo.heap.size≤b∧b<wr.heap.size)=>by omega) HX.2.2.2.1)
end Go.Proofs.YtccbbkopmlnkpaaGreatDoor
