/- Part 35 of the proof of CallsShallow (its last part says what is proved). No condition. -/
import Derived.Test.YtncdbjponknakaaGreatDoorK33
namespace Go.Proofs.YtncdbjponknakaaGreatDoor
set_option maxRecDepth 100000
set_option maxHeartbeats 8000000
open Go.RowKit Go.Proofs.Tryz
structure lY (c:aE):Prop where
 Nd:c.Nd.length≤1048576
 Nf:c.Nf.length≤1048576
 Ng:∀b∈c.Nf,b.Ng.length≤1048576
 ops:∀b∈c.Nf,∀l∈b.Ng,l.length≤1048576
 op:∀b∈c.Nf,∀l∈b.Ng,∀x∈l,Cv x
theorem Jl:(prog.info? 223).map (fun i=>(i.zero,i.size,i.bytes))=some (some (.agg #[.string ⟨#[]⟩,.int .i64 0,.string ⟨#[]⟩,.int .i64 0]),4,48):=by kernel_rfl
theorem Jm:(prog.info? 229).map (fun i=>(i.zero,i.size,i.bytes))=some (some (.agg #[.string ⟨#[]⟩,.slice none 0 0,.int .i64 0]),3,48):=by kernel_rfl
theorem Ld:(prog.info? 226).map (fun i=>(i.zero,i.size,i.bytes))=some (some (.agg #[.string ⟨#[]⟩,.slice none 0 0,.slice none 0 0,.int .i64 0]),4,72):=by kernel_rfl
theorem Jo:(prog.info? 231).map (fun i=>(i.zero,i.size,i.bytes))=some (some (.agg #[.int .u8 0,.int .u8 0,.string ⟨#[]⟩,.string ⟨#[]⟩,.string ⟨#[]⟩,.slice none 0 0,.slice none 0 0,.int .i64 0,.int .i64 0]),9,120):=by kernel_rfl
theorem KJ {p:aH}{k:Nat}{j:Int×Int}{lv:ByteArray}(l:p.MZ[j.2.toNat]? =some lv)(o:aV j.1)(C:kj p)(S:Nat→Prop)(w:World):EB S w [.string (aL 97 (k:Int)),.int .i64 j.1,.string lv,.int .i64 0] (sa p k j):=by
 have e:p.MZ.getD j.2.toNat gR=lv:=by rw[iG,l];rfl
 have J:=fa 97 (k:Int);have R:=C.MZ lv (mG l);refine⟨?_,o,?_,?_,?_⟩
 ·show [Value.string (aL 97 (k:Int)),.int .i64 j.1,.string lv,.int .i64 0]=[Value.string (aL 97 (k:Int)),.int .i64 j.1,.string (p.MZ.getD j.2.toNat gR),.int .i64 0]
  rw[e]
 ·show aV 0
  unfold aV;omega
 ·show(aL 97 (k:Int)).size≤_
  omega
 show(p.MZ.getD j.2.toNat gR).size≤_;rw[e];omega
theorem Iu {p:aH}{main:Int}{k:Nat}{b:aw}{l:ByteArray}{S:Nat→Prop}{w:World}{o a2:Option Addr}{C J R Y:Nat}(j:qY main k=l)(Z:gB S w (.slice o C J) ((List.range b.params.toNat).map fun(k:Nat)=>aL 118 k))(h2:mJ S w (.slice a2 R Y) (b.Ng.mapIdx (eh p main))):
 uA S w [.string l,.slice o C J,.slice a2 R Y,.int .i64 0] (bU p main k b):=by
 subst j;refine⟨_,_,rfl,Z,h2,?_,?_,fun s hs=>?_⟩
 ·show aV 0
  unfold aV;omega
 ·show(qY main k).size≤_;unfold qY;split;·decide
  have:=fa 102 (k:Int);omega
 obtain⟨i,_,rfl⟩:=dr.1 hs;have:=fa 118 (i:Int);omega
theorem Fa {p:aH}{main:Int}{k:Nat}{l:List bz}{S:Nat→Prop}{w:World}{j:Option Addr}{o C:Nat}(J:Im S w (.slice j o C) (l.map (jC p main))):
 qh S w [.string (aL 98 (k:Int)),.slice j o C,.int .i64 0] (eh p main k l):=by
 refine⟨_,rfl,J,?_,?_⟩
 ·show aV 0
  unfold aV;omega
 show(aL 98 (k:Int)).size≤_;have:=fa 98 (k:Int);omega
theorem Jp {S:Nat→Prop}{w:World}{cs:List Value}{x:cX}(h:zH S w cs x):zH (fun b=>S b∧b<w.heap.size) w cs x:=by obtain⟨a,f,e,j,l,o⟩:=h;exact⟨a,f,e,rF j,rF l,o⟩
theorem yA {S:Nat→Prop}{a w:World}(h:aa (fun b=>S b∧b<a.heap.size) a w):aa S a w:=⟨h.os,h.output,h.size,fun k j l=>h.block k j ⟨l,j⟩⟩
theorem tO {α β:Type}{l:List α}{g:Nat→α→β}{k:Nat}{a:α}(h:l[k]? =some a):(l.mapIdx g).take (k+1)=(l.mapIdx g).take k++[g k a]:=by rw[cU,jA,h];rfl
abbrev Kw:=dR 4 223 EB
abbrev BB:=dR 4 226 uA
abbrev xB:=dR 3 229 qh
abbrev EI:=dR 9 231 zH
def EP (p:aH)(c:aE)(w:World)(e:Ending)(w':World):Prop:=∃(A1:Option Addr) (n1 c1:Nat) (A2:Option Addr) (n2 c2:Nat) (b:Bool),e=.returned (.tuple #[.agg #[.slice A1 n1 c1,.slice A2 n2 c2],.bool b])∧b=pB (pi p c)∧aa All w w'∧(pi p c→BF (fun b=>w.heap.size≤b∧b<w'.heap.size) w' (.agg #[.slice A1 n1 c1,.slice A2 n2 c2]) (cP p c))
theorem DM (S:Nat→Prop)(pv cv:Value)(p:aH)(c:aE)(w:World)(hp:dJ S w pv p)(hc:cQ S w cv c)(q7:kj p)(hz:lY c):
 Calls prog 91 #[pv,cv] w (EP p c w):=by
 obtain⟨iA,q8,q9,r3,r4⟩:=info_parts Jl;obtain⟨iB,r5,r6,r7,r8⟩:=info_parts Jm;obtain⟨iF,r9,s0,s3,s4⟩:=info_parts Ld;obtain⟨iI,s5,s6,s7,s8⟩:=info_parts Jo;obtain⟨iS,s9,u0,u2,u3⟩:=info_parts FV;have IS:=J4 s9 u0 u2 u3;have IA:=J4 q8 q9 r3 r4;have IB:=J4 r5 r6 r7 r8;have IF:=J4 r9 s0 s3 s4;have II:=J4 s5 s6 s7 s8;clear q8 q9 r3 r4 r5 r6 r7 r8 r9 s0 s3 s4 s5 s6 s7 s8 s9 u0 u2 u3;have u4:=cB.la hp;obtain⟨F8,vu,vi,vo,rfl,u5,C8,C9,D0,D1⟩:=hp;have u6:=ax.la u5;obtain⟨vl,cl,rfl,q1,q2,q3,_⟩:=u5;obtain⟨a,f,rfl,u7,u9,D3⟩:=hc;have v7:=bu.la u7;have v8:=bV.la u9;obtain⟨A1,c1,rfl,l1,l2,l3,_⟩:=u7;obtain⟨A2,c2,rfl,m1,m2,m3,_⟩:=u9;unfold maxLen at l2 m2;obtain⟨W0,i2⟩:=eQ (((((w.alloc (.cells #[.slice vl p.MZ.length cl,vu,vi,vo,.int .i64 p.Nc] 26)).alloc (.cells #[.slice A1 c.Nd.length c1,.slice A2 c.Nf.length c2,.int .i64 c.main] 30)).alloc (.cells #[.slice none 0 0,.slice none 0 0] 162)).alloc (.cells #[.slice none 0 0,.slice none 0 0] 162)));have w0:W0.heap.size=w.heap.size+4:=by rw[i2];simp
 have w1:aa All w W0:=by rw[i2];exact(((kR.alloc _).alloc _).alloc _).alloc _
 have w3:al W0 (w.heap.size) 26 #[.slice vl p.MZ.length cl,vu,vi,vo,.int .i64 p.Nc]:=by rw[i2];exact(((al.new _ _ _).alloc _).alloc _).alloc _
 have w6:al W0 (w.heap.size+1) 30 #[.slice A1 c.Nd.length c1,.slice A2 c.Nf.length c2,.int .i64 c.main]:=by rw[i2];exact((ac (by simp)).alloc _).alloc _
 have w7:al W0 (w.heap.size+1+1) 162 #[.slice none 0 0,.slice none 0 0]:=by rw[i2];exact(ac (by simp)).alloc _
 have w9:al W0 (w.heap.size+1+1+1) 162 #[.slice none 0 0,.slice none 0 0]:=by rw[i2];exact ac (by simp)
 have HW:=J5 i2 w0 w1 w9 w7;have HP:=J7 w3 w6 u4 u6 v7 v8 D3;have HZ:=J2 q7 hz;have za:=hz.Nd;have zf:=hz.Nf;clear i2 w0 w1 w9 w7 w3 w6 u4 u6 v7 v8 C8 C9 D0 D1 hz q7;go_enter func91,ntmps91;go_upto_region 2 with fail;rw[←HW.1];have c0:=HP.2.1.cell 0;simp only[gc] at c0;go_wp2_with fail;go_loopg [23] c.Nd.length (fun g D4 wr=>∃(k:Nat) (vA:Value),k≤c.Nd.length∧g=c.Nd.length-k∧D4=.int .i64 k∧aa (fun b=>b≠w.heap.size+1+1+1) W0 wr∧al wr (w.heap.size+1+1+1) 162 #[vA,.slice none 0 0]∧Kw (w.heap.size+4) wr vA ((c.Nd.mapIdx (sa p)).take k)∧∀(i:Nat) a,i<k→c.Nd[i]? =some a→0≤a.2∧a.2<p.MZ.length);·exact⟨0,_,by omega,by omega,rfl,kR,HW.2.2.2.1,dR.nil,fun i a h=>by omega⟩
 obtain⟨k,vA,hk,rfl,rfl,Y,J,R,a1⟩:=hrel;have h8:aa All w wr:=dV (HW.2.2.1.all.trans (Y.mono fun b Z=>by show b≠_;omega));by_cases o5:k<c.Nd.length;·(
 obtain⟨C,cp,rfl⟩:=R.form;have i6:((c.Nd.mapIdx (sa p)).take k).length=k:=by rw[fN,List.length_mapIdx];omega
 rw[i6] at R J;obtain⟨ar,o6⟩:=eG o5;obtain⟨bb,o,cs,rfl,D5,D6,a8,rfl,x3,F3⟩:=aZ (HP.2.2.2.2.1 wr h8) o6;have x0:=a8 0 _ rfl;rw[dj] at x0;have x1:=a8 1 _ rfl;obtain⟨W1,d7⟩:=eQ (wr.alloc (.cells #[.int .i64 ar.1,.int .i64 ar.2] 74));have j7:aa All wr W1:=by rw[d7];exact kR.alloc _
 have b1:al W1 wr.heap.size 74 #[.int .i64 ar.1,.int .i64 ar.2]:=by rw[d7];exact ac rfl
 have k1:W1.heap.size=wr.heap.size+1:=by rw[d7];simp
 have n4:=Y.size;rw[HW.2.1] at n4;have HR:=J6 Y J R a1 h8 o6;have H1:=J5 d7 j7 b1 x3 k1;have e1:=b1.cell 1;have e0:=b1.cell 0;simp only[gc] at e0 e1;have p0:=((HP.1.kept Y (by show _≠_;omega)).kept j7 trivial).cell 0;simp only[gc] at p0;clear a8 Y J R a1 h8 o6 d7 j7 b1 k1;go_upto_region 5 with fail;rw[←H1.1];by_cases ok:0≤ar.2∧ar.2<p.MZ.length;·(
 obtain⟨k2,o7⟩:=ok;have t1:decide (ar.2<0)=false:=by simp;omega
 have t2:decide ((p.MZ.length:Int)≤ar.2)=false:=by simp;omega
 obtain⟨lv,o8⟩:∃lv,p.MZ[ar.2.toNat]? =some lv:=⟨_,lG (by omega)⟩;obtain⟨vb,x4,vv,rfl,_,x5,rfl⟩:=bn (HP.2.2.2.1 W1 (HR.2.2.2.2.1.trans H1.2.1)) o8;go_wp2_with fail;have hq:∀wn,aa All W1 wn→wn.cell? ⟨w.heap.size+1+1+1,0,none⟩=some (.slice C k cp)∧wn.cell? ⟨wr.heap.size,0,none⟩=some (.int .i64 ar.1)∧wn.cell? ⟨wr.heap.size,1,none⟩=some (.int .i64 ar.2)∧wn.cell? ⟨w.heap.size,0,none⟩=some (.slice (some ⟨vb,x4,none⟩) p.MZ.length cl)∧wn.cell? ⟨vb,x4+ar.2.toNat,none⟩=some (.string lv):=fun wn hk=>
  ⟨((HR.2.1.kept H1.2.1 trivial).kept hk trivial).cell 0,hk.cell trivial e0,hk.cell trivial e1,hk.cell trivial p0,hk.cell trivial x5⟩
 have HN:=J3 hq (fun wn=>ez 97 (k:Int) (by unfold aV;omega) wn) o8;clear hq o8 x5;refine R1 14 W1 [53] (fun _ v wn=>∃g,v=.slice (some ⟨g,0,none⟩) 1 1∧W1.heap.size≤g∧al wn g 223 #[.string (aL 97 (k:Int)),.int .i64 ar.1,.string lv,.int .i64 0]) (fun i=>if i=3 then some (·=.string (aL 97 (k:Int))) else if i=13 then some (fun v=>∃g,v=.slice (some ⟨g,0,none⟩) 1 1) else none) ?_;refine O0 ?_;refine O3 (fun wn hk hp=>by(have e1:=HN.1 wn hk;have q0:=e1.1;have q1:=e1.2.1;have q2:=e1.2.2.1;have q3:=e1.2.2.2.1;have q4:=e1.2.2.2.2;go_simp;with_reducible rfl)) ?_;refine O0 ?_;refine tW (v:=.string (aL 97 (k:Int))) (by rfl) (by rfl) (by rfl) (by intro d hd;cases hd;decide) (fun wn hk hp=>⟨_,_,by(go_simp<;>with_reducible rfl),(HN.2.1 wn).mono fun e w' h=>⟨h.1,hk.trans h.2,fun t _ v ⟨g,e,h1,h2⟩=>⟨g,e,h1,h2.kept h.2 trivial⟩⟩⟩) ?_;simp only[PS];refine O0 ?_;refine O3 (fun wn hk hp=>by(have e1:=HN.1 wn hk;have q0:=e1.1;have q1:=e1.2.1;have q2:=e1.2.2.1;have q3:=e1.2.2.2.1;have q4:=e1.2.2.2.2;go_simp;with_reducible rfl)) ?_;refine O0 ?_;refine O3 (fun wn hk hp=>by(have e1:=HN.1 wn hk;have q0:=e1.1;have q1:=e1.2.1;have q2:=e1.2.2.1;have q3:=e1.2.2.2.1;have q4:=e1.2.2.2.2;go_simp;with_reducible rfl)) ?_;refine O0 ?_;refine O3 (fun wn hk hp=>by(have e1:=HN.1 wn hk;have q0:=e1.1;have q1:=e1.2.1;have q2:=e1.2.2.1;have q3:=e1.2.2.2.1;have q4:=e1.2.2.2.2;go_simp;with_reducible rfl)) ?_;refine O0 ?_;refine O3 (fun wn hk hp=>by(have e1:=HN.1 wn hk;have q0:=e1.1;have q1:=e1.2.1;have q2:=e1.2.2.1;have q3:=e1.2.2.2.1;have q4:=e1.2.2.2.2;go_simp;with_reducible rfl)) ?_;refine O0 ?_;refine O6 (fun wn hk hp=>?_) (fun wn hk hp=>?_) ?_
 ·go_simp
  exact⟨rfl,⟨_,rfl⟩,hk.alloc _,fun t _ v ⟨g,e,h1,h2⟩=>⟨g,e,h1,h2.alloc _⟩,fun d hd hT=>⟨_,rfl,hk.size,al.new _ _ _⟩⟩
 ·exact⟨.slice (some ⟨wn.heap.size,0,none⟩) 1 1,wn.alloc (.cells #[.string (aL 97 (k:Int)),.int .i64 ar.1,.string lv,.int .i64 0] 223),⟨_,rfl⟩,hk.alloc _,fun t _ v ⟨g,e,h1,h2⟩=>⟨g,e,h1,h2.alloc _⟩,fun d hd hT=>⟨_,rfl,hk.size,al.new _ _ _⟩⟩
 rintro v ⟨g,rfl⟩;simp only[PS];refine aG fun wt d8 hF=>?_;obtain⟨g',e,D7,k3⟩:=hF 53 (by simp) _ rfl;iterate 3 injection e with e
 subst e;simp only[dK];have o9:=HR.2.2.1.keep pH (H1.2.1.trans d8) (fun _ _ _=>trivial);have d9:=(HR.2.1.kept H1.2.1 trivial).kept d8 trivial;have n5:=d8.size;rw[H1.2.2.2.2] at n5;have HT:=J4 d8 d9 k3 o9;clear d8 d9 k3 hF;go_wp2_with (
  at_builtin;go_loud (
  refine bN (E:=EB) _ pH rfl (.tmp 41) (.tmp 53) 159 rfl iA _ 48 underlying159 IA.1 IA.2.1 IA.2.2.1 IA.2.2.2 rfl (by decide) _ _ rfl HT.2.2.2 g 0 1 rfl [.string (aL 97 (k:Int)),.int .i64 ar.1,.string lv,.int .i64 0] (sa p k ar) rfl ?_ ?_ (by rw[i6];omega) (by omega) ?_ (fun _=>False) ?_ ?_ ?_;·intro j u hu;rw[cN,HT.2.2.1.cell,List.getElem?_toArray];exact hu
  ·intro u hu;simp only[fX,List.not_mem_nil,or_false] at hu;rcases hu with rfl|rfl|rfl|rfl<;>rfl
  ·omega
  ·intro b Z
   exact Z.elim
  ·exact KJ HN.2.2 H1.2.2.2.1 HZ.1 _ _
  intro C2 k4 w2 k5 b2 c5;have a7:=HT.2.1.grown b2 (fun e=>by have:=(c5 _ e.symm);omega);have y0:=a7.cell 0;have y1:=a7.free 0;simp only[gc] at y0;have H2:=J4 a7 k5 b2 c5;clear a7 k5 b2 c5))
 go_roundg (c.Nd.length-(k+1))
 ·refine⟨k+1,.slice C2 (k+1) k4,by omega,rfl,by go_num,(((HR.1.trans (H1.2.1.trans HT.1).all).grown H2.2.2.1 fun b Z=>.inr (by have:=H2.2.2.2 b Z;have:=HW.2.1;omega)).setCell (.inl fun h=>h rfl) _),by simpa using H2.1.set 0 (.slice C2 (k+1) k4),?_,fun i x hi hx=>?_⟩
  ·rw[tO HR.2.2.2.2.2]
   have h3:=H2.2.1;rw[i6] at h3;exact h3.keep pH ((aa.refl (fun b=>b≠w.heap.size+1+1+1) _).setCell (.inl fun h=>h rfl) _) fun b Z k6=>by show b≠_;omega
  by_cases e:i=k;·subst e;rw[HR.2.2.2.2.2] at hx;injection hx with hx;subst hx;exact⟨k2,o7⟩
  exact HR.2.2.2.1 i x (by omega) hx
 omega)
 by_cases k2:ar.2<0
 ·have t1:decide (ar.2<0)=true:=by simp;omega
  have o0:=(HR.2.1.kept H1.2.1 trivial).cell 0;have o1:=(HR.2.1.kept H1.2.1 trivial).cell 1;have r0:=((HW.2.2.2.2.kept HR.1 (by show _≠_;omega)).kept H1.2.1 trivial).cell 0;have r1:=((HW.2.2.2.2.kept HR.1 (by show _≠_;omega)).kept H1.2.1 trivial).cell 1;have f0:=((HW.2.2.2.2.kept HR.1 (by show _≠_;omega)).kept H1.2.1 trivial).free 0;have f1:=((HW.2.2.2.2.kept HR.1 (by show _≠_;omega)).kept H1.2.1 trivial).free 1;simp only[gc] at o0 o1 r0 r1;go_wp2_with fail;have b0:=((((HR.1.trans H1.2.1.all).mono fun b (Z:b≠w.heap.size+1+1+1∧b≠w.heap.size+1+1)=>Z.1).setCell (p:=⟨w.heap.size+1+1,0,none⟩) (.inl fun h=>h.2 rfl) (.slice C k cp)).setCell (p:=⟨w.heap.size+1+1,1,none⟩) (.inl fun h=>h.2 rfl) (.slice none 0 0));have a7:=(((HW.2.2.2.2.kept HR.1 (by show _≠_;omega)).kept H1.2.1 trivial).set 0 (.slice C k cp)).set 1 (.slice none 0 0);have g0:=a7.cell 0;have g1:=a7.cell 1;simp only[ga,gc] at g0 g1;refine bodyPost_ret (v:=.tuple #[.agg #[.slice C k cp,.slice none 0 0],.bool false]) (by simp[results,Tryz.f91,go_sem,g0,g1]) rfl ⟨_,_,_,_,_,_,false,rfl,(au fun h=>?_).symm,dV (HW.2.2.1.all.trans (b0.mono fun b Z=>by constructor<;>(show b≠_)<;>omega)),fun h=>?_⟩;·have:=h.1 ar (mG HR.2.2.2.2.2);omega
  have:=h.1 ar (mG HR.2.2.2.2.2);omega
 have t1:decide (ar.2<0)=false:=by simp;omega
 have t2:decide ((p.MZ.length:Int)≤ar.2)=true:=by simp;omega
 have o0:=(HR.2.1.kept H1.2.1 trivial).cell 0;have o1:=(HR.2.1.kept H1.2.1 trivial).cell 1;have r0:=((HW.2.2.2.2.kept HR.1 (by show _≠_;omega)).kept H1.2.1 trivial).cell 0;have r1:=((HW.2.2.2.2.kept HR.1 (by show _≠_;omega)).kept H1.2.1 trivial).cell 1;have f0:=((HW.2.2.2.2.kept HR.1 (by show _≠_;omega)).kept H1.2.1 trivial).free 0;have f1:=((HW.2.2.2.2.kept HR.1 (by show _≠_;omega)).kept H1.2.1 trivial).free 1;simp only[gc] at o0 o1 r0 r1;go_wp2_with fail;have b0:=((((HR.1.trans H1.2.1.all).mono fun b (Z:b≠w.heap.size+1+1+1∧b≠w.heap.size+1+1)=>Z.1).setCell (p:=⟨w.heap.size+1+1,0,none⟩) (.inl fun h=>h.2 rfl) (.slice C k cp)).setCell (p:=⟨w.heap.size+1+1,1,none⟩) (.inl fun h=>h.2 rfl) (.slice none 0 0));have a7:=(((HW.2.2.2.2.kept HR.1 (by show _≠_;omega)).kept H1.2.1 trivial).set 0 (.slice C k cp)).set 1 (.slice none 0 0);have g0:=a7.cell 0;have g1:=a7.cell 1;simp only[ga,gc] at g0 g1;refine bodyPost_ret (v:=.tuple #[.agg #[.slice C k cp,.slice none 0 0],.bool false]) (by simp[results,Tryz.f91,go_sem,g0,g1]) rfl ⟨_,_,_,_,_,_,false,rfl,(au fun h=>?_).symm,dV (HW.2.2.1.all.trans (b0.mono fun b Z=>by constructor<;>(show b≠_)<;>omega)),fun h=>?_⟩;·have:=h.1 ar (mG HR.2.2.2.2.2);omega
 have:=h.1 ar (mG HR.2.2.2.2.2);omega)
 obtain rfl:k=c.Nd.length:=by omega
 rw[oF (by rw[List.length_mapIdx];omega)] at R;have e9:∀a∈c.Nd,0≤a.2∧a.2<p.MZ.length:=fun a ha=>by obtain⟨i,hi⟩:=List.getElem?_of_mem ha;exact a1 i a (lS.1 hi).1 hi
 have hA:=R.read (bw:=48) pH (by rw[List.length_mapIdx];omega);obtain⟨C,cp,rfl⟩:=R.form;rw[List.length_mapIdx] at hA J;have d1:=(HP.2.1.kept Y (by show _≠_;omega)).cell 1;simp only[gc] at d1;have x6:=Y.size;rw[HW.2.1] at x6;obtain⟨wo,rfl⟩:=eQ wr;have HO:=J5 Y J hA e9 h8;clear Y J R hA a1 e9 h8;go_wp2_with fail;go_loopg [60] c.Nf.length (fun g D8 wr=>∃(k:Nat) (vF:Value),k≤c.Nf.length∧g=c.Nf.length-k∧D8=.int .i64 k∧aa (fun b=>b≠w.heap.size+1+1+1) wo wr∧al wr (w.heap.size+1+1+1) 162 #[.slice C c.Nd.length cp,vF]∧BB wo.heap.size wr vF ((c.Nf.mapIdx (bU p c.main)).take k)∧∀(i:Nat) b,i<k→c.Nf[i]? =some b→lX p b);·exact⟨0,_,by omega,by omega,rfl,kR,HO.2.1,dR.nil,fun i a h=>by omega⟩
 obtain⟨k,vF,hk,rfl,rfl,Y,J,R,a1⟩:=hrel;have h8:aa All w wr:=dV (HW.2.2.1.all.trans ((HO.1.trans Y).mono fun b Z=>by show b≠_;omega));have n4:=Y.size;obtain⟨D,dp,rfl⟩:=R.form;have i6:((c.Nf.mapIdx (bU p c.main)).take k).length=k:=by rw[fN,List.length_mapIdx];omega
 rw[i6] at R J;by_cases o5:k<c.Nf.length;·(
 obtain⟨b,Z⟩:=eG o5;have m7:=mG Z;obtain⟨bb,o,cs,rfl,D5,D6,a8,vb,rfl,x7,F9,G0⟩:=aZ (HP.2.2.2.2.2.1 wr h8) Z;have x0:=a8 0 _ rfl;rw[dj] at x0;have x1:=a8 1 _ rfl;have x2:=a8 2 _ rfl;have n6:=bg.la x7;obtain⟨A3,c3,rfl,n1,n2,n3,_⟩:=x7;unfold maxLen at n2;have zb:=HZ.2.Ng b m7;have zo:=HZ.2.ops b m7;have zx:=HZ.2.op b m7;obtain⟨W1,d7⟩:=eQ (wr.alloc (.cells #[.int .i64 b.params,.int .i64 b.vars,.slice A3 b.Ng.length c3] 43));have j7:aa All wr W1:=by rw[d7];exact kR.alloc _
 have b1:al W1 wr.heap.size 43 #[.int .i64 b.params,.int .i64 b.vars,.slice A3 b.Ng.length c3]:=by rw[d7];exact ac rfl
 have k1:W1.heap.size=wr.heap.size+1:=by rw[d7];simp
 obtain⟨wf,rfl⟩:=eQ wr;have HR:=J6 Y J R a1 h8 Z;have H1:=J7 d7 j7 b1 k1 n6 zo zx;have HN:=oH (fun wn=>ez 102 (k:Int) (by unfold aV;omega) wn);clear a8 Y J R a1 h8 Z d7 j7 b1 k1 n6 zo zx m7;go_upto_region 12 with fail;rw[←H1.1];go_wp2_with fail;refine(HN.out _).mono ?_;rintro e w2 ⟨rfl,b0⟩;have D9:=b0.size;rw[H1.2.2.2.1] at D9;obtain⟨W3,j8⟩:=eQ (w2.alloc (.cells #[.string (aL 102 (k:Int)),.slice none 0 0,.slice none 0 0,.int .i64 0] 226));have k7:aa All wf W3:=by rw[j8];exact(H1.2.1.trans b0).alloc _
 have b3:al W3 w2.heap.size 226 #[.string (aL 102 (k:Int)),.slice none 0 0,.slice none 0 0,.int .i64 0]:=by rw[j8];exact ac rfl
 have b1:al W3 wf.heap.size 43 #[.int .i64 b.params,.int .i64 b.vars,.slice A3 b.Ng.length c3]:=by rw[j8];exact(H1.2.2.1.kept b0 trivial).alloc _
 have x8:W3.heap.size=w2.heap.size+1:=by rw[j8];simp
 have H3:=J5 j8 k7 b3 b1 x8;clear b0 j8 k7 b3 b1 x8;go_upto_region 13 with fail;rw[←H3.1];have m2:=(((HP.2.1.kept HO.1 (by show _≠_;omega)).kept HR.1 (by show _≠_;omega)).kept H3.2.1 trivial).cell 2;simp only[gc] at m2;go_upto_if 71 with fail;obtain⟨FN,k8⟩:=eR (qY c.main k);go_cut [] (fun wx=>aa (fun b=>b≠w2.heap.size) W3 wx∧al wx w2.heap.size 226 #[.string FN,.slice none 0 0,.slice none 0 0,.int .i64 0])
 case first=>(
 have q0:=H3.2.2.1.cell 0;have f0:=H3.2.2.1.free 0;simp only[gc] at q0;by_cases em:(k:Int)=c.main
 ·have tm:((k:Int)==c.main)=true:=by rw[cy];exact em
  have HE:=oH (show FN=⟨#[109,97,105,110]⟩ by rw[←k8];unfold qY;simp[em,fO]);clear em k8;go_wp2_with fail;go_meet;exact⟨kR.setCell (.inl fun h=>h rfl) _,by rw[HE.out];simpa using H3.2.2.1.set 0 (.string ⟨#[109,97,105,110]⟩)⟩
 have tm:((k:Int)==c.main)=false:=by rw[bE];exact em
 have HE:=oH (show FN=aL 102 (k:Int) by rw[←k8];unfold qY;simp[em]);clear em k8;go_wp2_with fail;go_meet;exact⟨kR,by rw[HE.out];exact H3.2.2.1⟩)
 obtain⟨m8,x9⟩:=hcut;have y4:=m8.size;rw[H3.2.2.2.2] at y4;have b1:=H3.2.2.2.1.kept m8 (by show _≠_;omega);have e0:=b1.cell 0;simp only[gc] at e0;have HX:=J3 m8 x9 b1;clear m8 x9 b1 m2;by_cases ok:0≤b.params∧b.params≤6;·(
 obtain⟨k2,o7⟩:=ok;have t1:decide (b.params<0)=false:=by simp;omega
 have t2:decide ((6:Int)<b.params)=false:=by simp;omega
 obtain⟨pn,E0⟩:∃pn:Nat,b.params.toNat=pn:=⟨_,rfl⟩;have HB:=J3 k2 o7 E0;go_wp2_with fail;go_loopg [84] pn (fun g E4 wr=>∃(j:Nat) (v1:Value),j≤pn∧g=pn-j∧E4=.int .i64 j∧aa (fun b=>b≠w2.heap.size) wc wr∧al wr w2.heap.size 226 #[.string FN,v1,.slice none 0 0,.int .i64 0]∧wr.ownsRow wc.heap.size 9 1 v1 j (de ((List.range j).map fun(k:Nat)=>aL 118 k)));·exact⟨0,_,by omega,by omega,rfl,kR,HX.2.1,⟨rfl,.inl ⟨rfl,rfl⟩⟩⟩
 obtain⟨j,v1,hj,rfl,rfl,Y,J,h0⟩:=hrel;have E5:=Y.size;by_cases n7:j<pn;·(
 have t5:decide ((j:Int)<b.params)=true:=by simp;omega
 have hn:=fun wn=>ez 118 (j:Int) (by unfold aV;omega) wn;obtain⟨E1,ep,rfl⟩:=aU h0;have y6:∀wn,aa All wr wn→wn.cell? ⟨w2.heap.size,1,none⟩=some (.slice E1 j ep):=fun wn hk=>(J.kept hk trivial).cell 1;have y7:=J2 hn y6;have p5:=J3 Y J h0;clear hn y6 Y J h0;go_wp2_with fail;refine R1 5 wr [91] (fun _ v wn=>∃g,v=.slice (some ⟨g,0,none⟩) 1 1∧wr.heap.size≤g∧al wn g 9 #[.string (aL 118 (j:Int))]) (fun i=>if i=3 then some (·=.string (aL 118 (j:Int))) else if i=4 then some (fun v=>∃g,v=.slice (some ⟨g,0,none⟩) 1 1) else none) ?_;refine O0 ?_;refine O3 (fun wn hk hp=>by(have e1:=y7.2 wn hk;go_simp;with_reducible rfl)) ?_;refine O0 ?_;refine tW (v:=.string (aL 118 (j:Int))) (by rfl) (by rfl) (by rfl) (by intro d hd;cases hd;decide) (fun wn hk hp=>⟨_,_,by(go_simp<;>with_reducible rfl),(y7.1 wn).mono fun e w' h=>⟨h.1,hk.trans h.2,fun t _ v ⟨g,e,h1,h2⟩=>⟨g,e,h1,h2.kept h.2 trivial⟩⟩⟩) ?_;simp only[PS];refine O6 (fun wn hk hp=>?_) (fun wn hk hp=>?_) ?_
 ·go_simp
  exact⟨rfl,⟨_,rfl⟩,hk.alloc _,fun t _ v ⟨g,e,h1,h2⟩=>⟨g,e,h1,h2.alloc _⟩,fun d hd hT=>⟨_,rfl,hk.size,al.new _ _ _⟩⟩
 ·exact⟨.slice (some ⟨wn.heap.size,0,none⟩) 1 1,wn.alloc (.cells #[.string (aL 118 (j:Int))] 9),⟨_,rfl⟩,hk.alloc _,fun t _ v ⟨g,e,h1,h2⟩=>⟨g,e,h1,h2.alloc _⟩,fun d hd hT=>⟨_,rfl,hk.size,al.new _ _ _⟩⟩
 rintro v ⟨g,rfl⟩;simp only[PS];refine aG fun wt d8 hF=>?_;obtain⟨g',e,D7,k3⟩:=hF 91 (by simp) _ rfl;iterate 3 injection e with e
 subst e;simp only[dK];have i7:=be p5.2.2 d8 (fun _ _=>trivial);have d9:=p5.2.1.kept d8 trivial;have j3:=k3.cell 0;have n5:=d8.size;simp only[gc] at j3;have HT:=J3 d8 d9 j3;clear d8 d9 k3 hF;go_wp2_with (
  at_builtin;go_loud (
  refine aR _ rfl (.tmp 88) (.tmp 91) 22 rfl wc.heap.size 9 iS _ 1 16 underlying22 IS.1 IS.2.1 IS.2.2.1 IS.2.2.2 rfl (by decide) _ _ _ rfl i7 (some ⟨g,0,none⟩) 1 1 [.string (aL 118 (j:Int))] rfl rfl ?_ ?_ (by unfold maxLen;omega) (by omega) (by omega) ?_;·(
 intro _;exact⟨_,_,rfl,fun j u hu=>by
  rcases j with _|j;·rw[cN,HT.2.2];exact hu
  simp at hu⟩)
  ·intro u hu
   rw[cx.1 hu];rfl
  intro v2 w4 j0 b2 n8;obtain⟨C2,k4,rfl⟩:=aU j0;have j4:=HT.2.1.grown b2 (fun e=>by have:=(aD i7 e.symm).1;omega);have y5:=j4.cell 1;have f5:=j4.free 1;simp only[gc] at y5;have H2:=J4 j4 j0 b2 n8;clear j4 j0 b2 n8))
 go_roundg (pn-(j+1))
 ·refine⟨j+1,.slice C2 (j+1) k4,by omega,rfl,by go_num,(((p5.1.trans HT.1.all).grown H2.2.2.1 fun b Z=>.inr (aD i7 Z).1).setCell (.inl fun h=>h rfl) _),?_,?_⟩
  ·have:=H2.1.set 1 (.slice C2 (j+1) k4)
   simpa using this
  have e:de ((List.range (j+1)).map fun(k:Nat)=>aL 118 k)=de ((List.range j).map fun(k:Nat)=>aL 118 k)++[.string (aL 118 (j:Int))]:=by rw[List.range_succ];simp[de]
  rw[e];exact be H2.2.1 ((aa.refl (fun b=>b≠w2.heap.size) _).setCell (.inl fun h=>h rfl) _) fun b Z=>by have:=(aD H2.2.1 Z).1;show b≠_;omega
 omega)
 obtain rfl:pn=j:=by omega
 have t5:decide ((pn:Int)<b.params)=false:=by simp;omega
 have y8:=rF (pY (S:=fun b=>wc.heap.size≤b) h0 (l:=(List.range pn).map fun(k:Nat)=>aL 118 k) (by simp) (by simp;omega) fun g hg=>(aD h0 hg).1);obtain⟨E1,ep,rfl⟩:=aU h0;have b1:=HX.2.2.kept Y (by show _≠_;omega);have e2:=b1.cell 2;simp only[gc] at e2;obtain⟨wp,rfl⟩:=eQ wr;have m9:=J3 Y J y8;clear Y J y8 h0 b1;go_wp2_with fail;go_loopg [98] b.Ng.length (fun g E6 wr=>∃(j:Nat) (vB:Value),j≤b.Ng.length∧g=b.Ng.length-j∧E6=.int .i64 j∧aa (fun b=>b≠w2.heap.size) wp wr∧al wr w2.heap.size 226 #[.string FN,.slice E1 pn ep,vB,.int .i64 0]∧xB wp.heap.size wr vB ((b.Ng.mapIdx (eh p c.main)).take j)∧∀(i:Nat) l,i<j→b.Ng[i]? =some l→∀x∈l,dx p x);·exact⟨0,_,by omega,by omega,rfl,kR,m9.2.1,dR.nil,fun i a h=>by omega⟩
 obtain⟨j,vB,hj,rfl,rfl,Y,J,R,a1⟩:=hrel;have E7:=Y.size;obtain⟨E2,bp,rfl⟩:=R.form;have k9:((b.Ng.mapIdx (eh p c.main)).take j).length=j:=by rw[fN,List.length_mapIdx];omega
 rw[k9] at R J;by_cases n7:j<b.Ng.length;·(
 obtain⟨l,hl⟩:=eG n7;have p6:=mG hl;have b5:aa (fun b=>b≠w2.heap.size) wf wr:=(H3.2.1.all.trans HX.1).trans (m9.1.trans Y);have j1:aa All wf wr:=dV (b5.mono fun b Z=>by show b≠_;omega);obtain⟨lb,lo,lv,rfl,G1,G2,y9⟩:=bn (H1.2.2.2.2.1 wr j1) hl;have n9:=cT.la y9;obtain⟨A4,c4,rfl,z1,z2,z3,_⟩:=y9;unfold maxLen at z2;have zl:=H1.2.2.2.2.2.1 l p6;have zy:=H1.2.2.2.2.2.2 l p6;have E8:=oH (fun wn=>ez 98 (j:Int) (by unfold aV;omega) wn);obtain⟨wb,rfl⟩:=eQ wr;have c8:=J9 Y J R a1 hl n9 zy b5 j1;clear Y J R a1 hl n9 zy b5 j1 p6;go_wp2_with fail;refine(E8.out _).mono ?_;rintro e w5 ⟨rfl,p7⟩;have G3:=p7.size;obtain⟨W6,l0⟩:=eQ (w5.alloc (.cells #[.string (aL 98 (j:Int)),.slice none 0 0,.int .i64 0] 229));have A0:aa All wb W6:=by rw[l0];exact p7.alloc _
 have b6:al W6 w5.heap.size 229 #[.string (aL 98 (j:Int)),.slice none 0 0,.int .i64 0]:=by rw[l0];exact ac rfl
 have p8:W6.heap.size=w5.heap.size+1:=by rw[l0];simp
 have H6:=J4 l0 A0 b6 p8;clear p7 l0 A0 b6 p8;go_upto_region 26 with fail;rw[←H6.1];go_wp2_with fail;go_loopg [108] l.length (fun g A5 wr=>∃(i:Nat) (vI:Value),i≤l.length∧g=l.length-i∧A5=.int .i64 i∧aa (fun b=>b≠w5.heap.size) W6 wr∧al wr w5.heap.size 229 #[.string (aL 98 (j:Int)),vI,.int .i64 0]∧EI W6.heap.size wr vI ((l.map (jC p c.main)).take i)∧∀(i':Nat) x,i'<i→l[i']? =some x→dx p x);·exact⟨0,_,by omega,by omega,rfl,kR,H6.2.2.1,dR.nil,fun i a h=>by omega⟩
 obtain⟨i,vI,hi,rfl,rfl,Y,J,R,a1⟩:=hrel;have p9:=Y.size;rw[H6.2.2.2] at p9;obtain⟨E3,ip,rfl⟩:=R.form;have l4:((l.map (jC p c.main)).take i).length=i:=by rw[fN,ce];omega
 rw[l4] at R J;by_cases A6:i<l.length;·(
 obtain⟨x,hx⟩:=eG A6;have A7:=mG hx;have b5:aa (fun b=>b≠w5.heap.size) wb wr:=H6.2.1.all.trans Y;have j1:aa All wb wr:=dV (b5.mono fun b Z=>by show b≠_;omega);have l5:aa All wf wr:=c8.2.2.2.2.2.2.2.2.trans j1;have q5:aa All w wr:=HR.2.2.2.2.1.trans l5;obtain⟨xb,xo,G4,rfl,G5,F4,h9,xa,xf,rfl,A8,A9,E9⟩:=aZ (c8.2.2.2.2.2.1 wr j1) hx;have B0:=ah.la A8;have B1:=ah.la A9;obtain⟨B2,B3,rfl,_⟩:=A8;obtain⟨B4,B5,rfl,_⟩:=A9;have z0:=h9 0 _ rfl;rw[dj] at z0;have z1:=h9 1 _ rfl;have z2:=h9 2 _ rfl;have z3:=h9 3 _ rfl;have z4:=h9 4 _ rfl;have z5:=h9 5 _ rfl;have z6:=h9 6 _ rfl;have z7:=h9 7 _ rfl;have z8:=h9 8 _ rfl;obtain⟨W7,l6⟩:=eQ (wr.alloc (.cells #[.int .u8 x.kind,.int .u8 x.op,.int .i64 x.dst,.int .i64 x.ref,.int .i64 x.Ni,.slice B2 x.args.length B3,.slice B4 x.Nh.length B5,.int .i64 x.num,.int .i64 x.Nj] 47));have j2:aa All wr W7:=by rw[l6];exact kR.alloc _
 have b7:al W7 wr.heap.size 47 #[.int .u8 x.kind,.int .u8 x.op,.int .i64 x.dst,.int .i64 x.ref,.int .i64 x.Ni,.slice B2 x.args.length B3,.slice B4 x.Nh.length B5,.int .i64 x.num,.int .i64 x.Nj]:=by rw[l6];exact ac rfl
 have q6:W7.heap.size=wr.heap.size+1:=by rw[l6];simp
 have j9:=(((HP.1.kept HO.1 (by show _≠_;omega)).kept HR.1 (by show _≠_;omega)).kept l5 trivial).kept j2 trivial;have n0:=(((HP.2.1.kept HO.1 (by show _≠_;omega)).kept HR.1 (by show _≠_;omega)).kept l5 trivial).kept j2 trivial;have p0:=j9.cell 0;have p1:=j9.cell 1;have p2:=j9.cell 2;have p3:=j9.cell 3;have p4:=j9.cell 4;have d0:=n0.cell 0;have d1:=n0.cell 1;have d2:=n0.cell 2;have e0:=b7.cell 0;have e1:=b7.cell 1;have e2:=b7.cell 2;have e3:=b7.cell 3;have e4:=b7.cell 4;have e5:=b7.cell 5;have e6:=b7.cell 6;have e7:=b7.cell 7;have e8:=b7.cell 8;simp only[gc] at p0 p1 p2 p3 p4 d0 d1 d2 e0 e1 e2 e3 e4 e5 e6 e7 e8;have B6:=AR S _ p (.slice A1 c.Nd.length c1) (.slice (some ⟨bb,o,none⟩) c.Nf.length c2) c.main _ _ x W7 (HP.2.2.1 W7 (q5.trans j2)) (B0 W7 j2) (B1 W7 j2) E9 (c8.2.2.2.2.2.2.1 x A7) HZ.1;have c6:=J7 Y J R a1 hx l5 q5;have H7:=J4 l6 j2 B6 q6;clear Y J R a1 b5 j1 l5 q5 h9 B0 B1 l6 j2 b7 q6 j9 n0 B6 hx A7;go_upto_region 29 with fail;rw[←H7.1];go_wp2_with fail;refine H7.2.2.1.mono ?_;rintro e w8 ⟨u,B7,rfl,o2,B8,dd,rr,tt,ia,l7,ik,ja,jn,jk,rfl,hI⟩;have B9:=oH o2;clear o2;have F0:=B8.size;rw[H7.2.2.2] at F0;obtain⟨i1,i4⟩:=eQ (w8.alloc (.cells #[.int .u8 x.kind,.int .u8 x.op,.string dd,.string rr,.string tt,.slice ia l7 ik,.slice ja jn jk,.int .i64 x.num,.int .i64 x.Nj] 231));have l8:aa All w8 i1:=by rw[i4];exact kR.alloc _
 have C0:al i1 w8.heap.size 231 #[.int .u8 x.kind,.int .u8 x.op,.string dd,.string rr,.string tt,.slice ia l7 ik,.slice ja jn jk,.int .i64 x.num,.int .i64 x.Nj]:=by rw[i4];exact ac rfl
 have l9:i1.heap.size=w8.heap.size+1:=by rw[i4];simp
 have m0:aa All wr i1:=(H7.2.1.trans B8).trans l8;have b4:=J5 i4 l8 C0 l9 m0;clear p0 p1 p2 p3 p4 d0 d1 d2 e0 e1 e2 e3 e4 e5 e6 e7 e8 z0 z1 z2 z3 z4 z5 z6 z7 z8;clear i4 l8 C0 l9 m0;go_upto_region 30 with fail;rw[←b4.1];by_cases h4:dx p x;·(
 have tb:B7=true:=by rw[B9.out];exact av h4
 have HI:=J2 h4 (Jp (hI h4));clear hI h4;subst tb;have y1:=(c6.2.1.kept b4.2.2.2.2 trivial).cell 1;have g0:=b4.2.2.1.cell 0;have g1:=b4.2.2.1.cell 1;have g2:=b4.2.2.1.cell 2;have g3:=b4.2.2.1.cell 3;have g4:=b4.2.2.1.cell 4;have g5:=b4.2.2.1.cell 5;have g6:=b4.2.2.1.cell 6;have g7:=b4.2.2.1.cell 7;have g8:=b4.2.2.1.cell 8;simp only[gc] at y1 g0 g1 g2 g3 g4 g5 g6 g7 g8;obtain⟨m4,i0⟩:=eQ (i1.alloc (.cells #[.int .u8 x.kind,.int .u8 x.op,.string dd,.string rr,.string tt,.slice ia l7 ik,.slice ja jn jk,.int .i64 x.num,.int .i64 x.Nj] 231));have j5:aa All wr m4:=by rw[i0];exact b4.2.2.2.2.alloc _
 have o3:aa All w8 m4:=by rw[i0];exact b4.2.1.alloc _
 have C1:al m4 i1.heap.size 231 #[.int .u8 x.kind,.int .u8 x.op,.string dd,.string rr,.string tt,.slice ia l7 ik,.slice ja jn jk,.int .i64 x.num,.int .i64 x.Nj]:=by rw[i0];exact ac rfl
 have F5:m4.heap.size=i1.heap.size+1:=by rw[i0];simp
 have l9:=eE b4.2.2.2.1;have F1:=eE b4.2.2.2.1.symm;have j6:EI W6.heap.size m4 (.slice E3 i ip) ((l.map (jC p c.main)).take i):=c6.2.2.1.keep nM j5 fun _ _ _=>trivial;have o4:=c6.2.1.kept j5 trivial;have k0:=J6 i0 j5 C1 o4 j6 (nM.keep o3.all HI.2);clear i0 j5 C1 o4 j6 o3;have q6:=eE H7.2.2.2;have F6:=eE H7.2.2.2.symm;have p8:=eE H6.2.2.2;have F7:=eE H6.2.2.2.symm;go_wp2_with (
  at_builtin;go_loud (
  rw[←k0.1];refine bN (E:=zH) _ nM rfl (.tmp 123) (.tmp 125) 227 rfl iI _ 120 underlying227 II.1 II.2.1 II.2.2.1 II.2.2.2 rfl (by decide) _ _ rfl k0.2.2.2.2.1 i1.heap.size 0 1 rfl [.int .u8 x.kind,.int .u8 x.op,.string dd,.string rr,.string tt,.slice ia l7 ik,.slice ja jn jk,.int .i64 x.num,.int .i64 x.Nj] (jC p c.main x) rfl ?_ ?_ (by rw[l4];omega) (by omega) ?_ (fun b=>W7.heap.size≤b∧b<w8.heap.size) ?_ ?_ ?_;·intro j u hu;rw[cN,k0.2.2.1.cell,List.getElem?_toArray];exact hu
  ·intro u hu;simp only[fX,List.not_mem_nil,or_false] at hu;rcases hu with rfl|rfl|rfl|rfl|rfl|rfl|rfl|rfl|rfl<;>rfl
  ·omega
  ·intro b Z;have C3:W7.heap.size≤b∧b<w8.heap.size:=Z;obtain⟨_,m5⟩:=c6.2.2.1.own;exact⟨by omega,by omega,fun e=>by have:=(aD m5 e).2;omega⟩
  ·exact k0.2.2.2.2.2
  intro D2 i5 w4 b8 b2 c5;have c7:=k0.2.2.2.1.grown b2 (fun e=>by have:=c5 _ e.symm;omega);have u1:=c7.cell 1;have v1:=c7.free 1;simp only[gc] at u1;have H4:=J4 c7 b8 b2 c5;clear c7 b8 b2 c5))
 go_roundg (l.length-(i+1))
 ·refine⟨i+1,.slice D2 (i+1) i5,by omega,rfl,by go_num,((c6.1.trans k0.2.1.all).grown H4.2.2.1 fun b Z=>.inr (H4.2.2.2 b Z)).setCell (.inl fun h=>h rfl) _,by simpa using H4.1.set 1 (.slice D2 (i+1) i5),?_,fun i' y hi hy=>?_⟩
  ·have e:(l.map (jC p c.main)).take (i+1)=(l.map (jC p c.main)).take i++[jC p c.main x]:=by rw[cU,cL,c6.2.2.2.2.1];rfl
   rw[e];have h3:=H4.2.1;rw[l4] at h3;exact h3.keep nM ((aa.refl (fun b=>b≠w5.heap.size) _).setCell (.inl fun h=>h rfl) _) fun b Z k6=>by show b≠_;omega
  by_cases e:i'=i;·subst e;rw[c6.2.2.2.2.1] at hy;injection hy with hy;subst hy;exact HI.1
  exact c6.2.2.2.1 i' y (by omega) hy
 omega)
 have tb:B7=false:=by rw[B9.out];exact au h4
 have HI:=oH h4;clear hI h4;subst tb;have o0:=((HR.2.1.kept c6.2.2.2.2.2.1 trivial).kept b4.2.2.2.2 trivial).cell 0;have o1:=((HR.2.1.kept c6.2.2.2.2.2.1 trivial).kept b4.2.2.2.2 trivial).cell 1;have a6:=(((HW.2.2.2.2.kept HO.1 (by show _≠_;omega)).kept HR.1 (by show _≠_;omega)).kept c6.2.2.2.2.2.1 trivial).kept b4.2.2.2.2 trivial;have r0:=a6.cell 0;have r1:=a6.cell 1;have f0:=a6.free 0;have f1:=a6.free 1;have b0:=((((c6.2.2.2.2.2.2.trans b4.2.2.2.2).all:aa (fun b=>b<w.heap.size) w i1)).setCell (p:=⟨w.heap.size+1+1,0,none⟩) (.inl (by show¬(w.heap.size+1+1<w.heap.size);omega)) (.slice C c.Nd.length cp)).setCell (p:=⟨w.heap.size+1+1,1,none⟩) (.inl (by show¬(w.heap.size+1+1<w.heap.size);omega)) (.slice D k dp);have a7:=(a6.set 0 (.slice C c.Nd.length cp)).set 1 (.slice D k dp);have g0:=a7.cell 0;have g1:=a7.cell 1;simp only[ga,gc] at o0 o1 r0 r1 g0 g1;have HK:=oH b0;clear b0 a7 a6;go_wp2_with fail;refine bodyPost_ret (v:=.tuple #[.agg #[.slice C c.Nd.length cp,.slice D k dp],.bool false]) (by simp[results,Tryz.f91,go_sem,g0,g1]) rfl ⟨_,_,_,_,_,_,false,rfl,(au fun h=>?_).symm,dV HK.out,fun h=>?_⟩;·exact(HI.out ((h.2 b (mG HR.2.2.2.2.2)).2.2 l (mG c8.2.2.2.2.1) x (mG c6.2.2.2.2.1))).elim
 exact(HI.out ((h.2 b (mG HR.2.2.2.2.2)).2.2 l (mG c8.2.2.2.2.1) x (mG c6.2.2.2.2.1))).elim)
 obtain rfl:i=l.length:=by omega
 rw[oF (by rw[ce];omega)] at R;have m6:=R.read (bw:=120) nM (by rw[ce];omega);have b5:aa (fun b=>b≠w5.heap.size) wb wr:=H6.2.1.all.trans Y;have h5:∀x∈l,dx p x:=fun x hx=>by obtain⟨i,hi⟩:=List.getElem?_of_mem hx;exact a1 i x (lS.1 hi).1 hi
 have o1:=(c8.2.1.kept b5 (by show _≠_;omega)).cell 2;have y0:=J.cell 0;have y1:=J.cell 1;have y2:=J.cell 2;simp only[gc] at o1 y0 y1 y2;obtain⟨W9,h6⟩:=eQ (wr.alloc (.cells #[.string (aL 98 (j:Int)),.slice E3 l.length ip,.int .i64 0] 229));have c9:aa All wr W9:=by rw[h6];exact kR.alloc _
 have b9:al W9 wr.heap.size 229 #[.string (aL 98 (j:Int)),.slice E3 l.length ip,.int .i64 0]:=by rw[h6];exact ac rfl
 have F2:W9.heap.size=wr.heap.size+1:=by rw[h6];simp
 have h7:xB wp.heap.size W9 (.slice E2 j bp) ((b.Ng.mapIdx (eh p c.main)).take j):=c8.2.2.1.keep lK (b5.trans c9.all) fun b Z k6=>by show b≠_;omega
 have C4:=(c8.2.1.kept b5 (by show _≠_;omega)).kept c9 trivial;have C5:qh (fun b=>w5.heap.size+1≤b∧b<wr.heap.size) W9 [.string (aL 98 (j:Int)),.slice E3 l.length ip,.int .i64 0] (eh p c.main j l):=Fa (it.keep c9.all (it.wide (fun b (Z:W6.heap.size≤b∧b<wr.heap.size)=>by have:=H6.2.2.2;omega) m6));have H9:=J8 h6 c9 b9 C4 h7 C5 b5 h5;clear h6 c9 b9 C4 h7 C5 b5 h5 a1 R m6 Y J;go_wp2_with (
  at_builtin;go_loud (
  rw[←H9.1];refine bN (E:=qh) _ lK rfl (.tmp 130) (.tmp 132) 224 rfl iB _ 48 underlying224 IB.1 IB.2.1 IB.2.2.1 IB.2.2.2 rfl (by decide) _ _ rfl H9.2.2.2.2.1 wr.heap.size 0 1 rfl [.string (aL 98 (j:Int)),.slice E3 l.length ip,.int .i64 0] (eh p c.main j l) rfl ?_ ?_ (by rw[k9];omega) (by omega) ?_ (fun b=>w5.heap.size+1≤b∧b<wr.heap.size) ?_ ?_ ?_;·intro j u hu;rw[cN,H9.2.2.1.cell,List.getElem?_toArray];exact hu
  ·intro u hu;simp only[fX,List.not_mem_nil,or_false] at hu;rcases hu with rfl|rfl|rfl<;>rfl
  ·omega
  ·intro b Z;have C3:w5.heap.size+1≤b∧b<wr.heap.size:=Z;obtain⟨_,m5⟩:=c8.2.2.1.own;exact⟨by omega,by omega,fun e=>by have:=(aD m5 e).2;omega⟩
  ·exact H9.2.2.2.2.2.1
  intro D2 i5 w4 b8 b2 c5;have c7:=H9.2.2.2.1.grown b2 (fun e=>by have:=c5 _ e.symm;omega);have u1:=c7.cell 2;have v1:=c7.free 2;simp only[gc] at u1;have H4:=J4 c7 b8 b2 c5;clear c7 b8 b2 c5))
 go_roundg (b.Ng.length-(j+1))
 ·refine⟨j+1,.slice D2 (j+1) i5,by omega,rfl,by go_num,yA ((((c8.1.mono fun b (Z:b≠w2.heap.size∧b<wp.heap.size)=>Z.1).trans ((H9.2.2.2.2.2.2.1.trans H9.2.1.all).mono fun b (Z:b≠w2.heap.size∧b<wp.heap.size)=>by show b≠_;omega)).grown H4.2.2.1 fun b Z=>.inr (by have:=H4.2.2.2 b Z;omega)).setCell (.inl fun h=>h.1 rfl) _),by simpa using H4.1.set 2 (.slice D2 (j+1) i5),?_,fun i x hi hx=>?_⟩
  ·rw[tO c8.2.2.2.2.1]
   have h3:=H4.2.1;rw[k9] at h3;exact h3.keep lK ((aa.refl (fun b=>b≠w2.heap.size) _).setCell (.inl fun h=>h rfl) _) fun b Z k6=>by show b≠_;omega
  by_cases e:i=j;·subst e;rw[c8.2.2.2.2.1] at hx;injection hx with hx;subst hx;exact H9.2.2.2.2.2.2.2
  exact c8.2.2.2.1 i x (by omega) hx
 omega)
 obtain rfl:j=b.Ng.length:=by omega
 rw[oF (by rw[List.length_mapIdx];omega)] at R;have m6:=R.read (bw:=48) lK (by rw[List.length_mapIdx];omega);have b5:aa (fun b=>b≠w2.heap.size) wf wr:=(H3.2.1.all.trans HX.1).trans (m9.1.trans Y);have h5:lX p b:=⟨HB.1,HB.2.1,fun l hl=>by obtain⟨i,hi⟩:=List.getElem?_of_mem hl;exact a1 i l (lS.1 hi).1 hi⟩;have o1:=(HR.2.1.kept b5 (by show _≠_;omega)).cell 1;have y0:=J.cell 0;have y1:=J.cell 1;have y2:=J.cell 2;have y3:=J.cell 3;simp only[gc] at o1 y0 y1 y2 y3;obtain⟨W9,h6⟩:=eQ (wr.alloc (.cells #[.string FN,.slice E1 pn ep,.slice E2 b.Ng.length bp,.int .i64 0] 226));have c9:aa All wr W9:=by rw[h6];exact kR.alloc _
 have b9:al W9 wr.heap.size 226 #[.string FN,.slice E1 pn ep,.slice E2 b.Ng.length bp,.int .i64 0]:=by rw[h6];exact ac rfl
 have F2:W9.heap.size=wr.heap.size+1:=by rw[h6];simp
 have h7:BB wo.heap.size W9 (.slice D k dp) ((c.Nf.mapIdx (bU p c.main)).take k):=HR.2.2.1.keep nj (b5.trans c9.all) fun b Z k6=>by show b≠_;omega
 have C6:=(HR.2.1.kept b5 (by show _≠_;omega)).kept c9 trivial;have C7:uA (fun b=>w2.heap.size+1≤b∧b<wr.heap.size) W9 [.string FN,.slice E1 pn ep,.slice E2 b.Ng.length bp,.int .i64 0] (bU p c.main k b):=by refine Iu k8 (by rw[HB.2.2];exact ax.keep c9.all (ax.keep (Y.mono fun b (Z:w2.heap.size+1≤b∧b<wr.heap.size)=>by show b≠_;omega) (ax.wide (fun b (Z:wc.heap.size≤b∧b<wp.heap.size)=>by omega) m9.2.2))) (eH.keep c9.all ?_);exact eH.wide (fun b (Z:wp.heap.size≤b∧b<wr.heap.size)=>by omega) m6
 have H9:=J8 h6 c9 b9 C6 h7 C7 b5 h5;clear h6 c9 b9 C6 h7 C7 b5 h5 a1 R m6 Y J;go_wp2_with (
  at_builtin;go_loud (
  rw[←H9.1];refine bN (E:=uA) _ nj rfl (.tmp 137) (.tmp 139) 160 rfl iF _ 72 underlying160 IF.1 IF.2.1 IF.2.2.1 IF.2.2.2 rfl (by decide) _ _ rfl H9.2.2.2.2.1 wr.heap.size 0 1 rfl [.string FN,.slice E1 pn ep,.slice E2 b.Ng.length bp,.int .i64 0] (bU p c.main k b) rfl ?_ ?_ (by rw[i6];omega) (by omega) ?_ (fun b=>w2.heap.size+1≤b∧b<wr.heap.size) ?_ ?_ ?_;·intro j u hu;rw[cN,H9.2.2.1.cell,List.getElem?_toArray];exact hu
  ·intro u hu;simp only[fX,List.not_mem_nil,or_false] at hu;rcases hu with rfl|rfl|rfl|rfl<;>rfl
  ·omega
  ·intro b Z;have C3:w2.heap.size+1≤b∧b<wr.heap.size:=Z;obtain⟨_,m5⟩:=HR.2.2.1.own;exact⟨by omega,by omega,fun e=>by have:=(aD m5 e).2;omega⟩
  ·exact H9.2.2.2.2.2.1
  intro D2 i5 w4 b8 b2 c5;have c7:=H9.2.2.2.1.grown b2 (fun e=>by have:=c5 _ e.symm;omega);have u1:=c7.cell 1;have v1:=c7.free 1;simp only[gc] at u1;have H4:=J4 c7 b8 b2 c5;clear c7 b8 b2 c5))
 go_roundg (c.Nf.length-(k+1))
 ·refine⟨k+1,.slice D2 (k+1) i5,by omega,rfl,by go_num,yA ((((HR.1.mono fun b (Z:b≠w.heap.size+1+1+1∧b<wo.heap.size)=>Z.1).trans ((H9.2.2.2.2.2.2.1.trans H9.2.1.all).mono fun b (Z:b≠w.heap.size+1+1+1∧b<wo.heap.size)=>by show b≠_;omega)).grown H4.2.2.1 fun b Z=>.inr (by have:=H4.2.2.2 b Z;omega)).setCell (.inl fun h=>h.1 rfl) _),by simpa using H4.1.set 1 (.slice D2 (k+1) i5),?_,fun i x hi hx=>?_⟩
  ·rw[tO HR.2.2.2.2.2]
   have h3:=H4.2.1;rw[i6] at h3;exact h3.keep nj ((aa.refl (fun b=>b≠w.heap.size+1+1+1) _).setCell (.inl fun h=>h rfl) _) fun b Z k6=>by show b≠_;omega
  by_cases e:i=k;·subst e;rw[HR.2.2.2.2.2] at hx;injection hx with hx;subst hx;exact H9.2.2.2.2.2.2.2
  exact HR.2.2.2.1 i x (by omega) hx
 omega)
 by_cases k2:b.params<0
 ·have t1:decide (b.params<0)=true:=by simp;omega
  have o0:=((HR.2.1.kept H3.2.1 trivial).kept HX.1 (by show _≠_;omega)).cell 0;have o1:=((HR.2.1.kept H3.2.1 trivial).kept HX.1 (by show _≠_;omega)).cell 1;have a6:=(((HW.2.2.2.2.kept HO.1 (by show _≠_;omega)).kept HR.1 (by show _≠_;omega)).kept H3.2.1 trivial).kept HX.1 (by show _≠_;omega);have r0:=a6.cell 0;have r1:=a6.cell 1;have f0:=a6.free 0;have f1:=a6.free 1;have b0:=((((HR.2.2.2.2.1.all.trans H3.2.1.all).trans (HX.1.mono fun b (Z:b<w.heap.size)=>by show b≠_;omega):aa (fun b=>b<w.heap.size) w wc)).setCell (p:=⟨w.heap.size+1+1,0,none⟩) (.inl (by show¬(w.heap.size+1+1<w.heap.size);omega)) (.slice C c.Nd.length cp)).setCell (p:=⟨w.heap.size+1+1,1,none⟩) (.inl (by show¬(w.heap.size+1+1<w.heap.size);omega)) (.slice D k dp);have a7:=(a6.set 0 (.slice C c.Nd.length cp)).set 1 (.slice D k dp);have g0:=a7.cell 0;have g1:=a7.cell 1;simp only[ga,gc] at o0 o1 r0 r1 g0 g1;have HK:=oH b0;clear b0 a7 a6;go_wp2_with fail;refine bodyPost_ret (v:=.tuple #[.agg #[.slice C c.Nd.length cp,.slice D k dp],.bool false]) (by simp[results,Tryz.f91,go_sem,g0,g1]) rfl ⟨_,_,_,_,_,_,false,rfl,(au fun h=>?_).symm,dV HK.out,fun h=>?_⟩
  ·have:=(h.2 b (mG HR.2.2.2.2.2)).1
   have:=(h.2 b (mG HR.2.2.2.2.2)).2.1;omega
  have:=(h.2 b (mG HR.2.2.2.2.2)).1;have:=(h.2 b (mG HR.2.2.2.2.2)).2.1;omega
 have t1:decide (b.params<0)=false:=by simp;omega
 have t2:decide ((6:Int)<b.params)=true:=by simp;omega
 have o0:=((HR.2.1.kept H3.2.1 trivial).kept HX.1 (by show _≠_;omega)).cell 0;have o1:=((HR.2.1.kept H3.2.1 trivial).kept HX.1 (by show _≠_;omega)).cell 1;have a6:=(((HW.2.2.2.2.kept HO.1 (by show _≠_;omega)).kept HR.1 (by show _≠_;omega)).kept H3.2.1 trivial).kept HX.1 (by show _≠_;omega);have r0:=a6.cell 0;have r1:=a6.cell 1;have f0:=a6.free 0;have f1:=a6.free 1;have b0:=((((HR.2.2.2.2.1.all.trans H3.2.1.all).trans (HX.1.mono fun b (Z:b<w.heap.size)=>by show b≠_;omega):aa (fun b=>b<w.heap.size) w wc)).setCell (p:=⟨w.heap.size+1+1,0,none⟩) (.inl (by show¬(w.heap.size+1+1<w.heap.size);omega)) (.slice C c.Nd.length cp)).setCell (p:=⟨w.heap.size+1+1,1,none⟩) (.inl (by show¬(w.heap.size+1+1<w.heap.size);omega)) (.slice D k dp);have a7:=(a6.set 0 (.slice C c.Nd.length cp)).set 1 (.slice D k dp);have g0:=a7.cell 0;have g1:=a7.cell 1;simp only[ga,gc] at o0 o1 r0 r1 g0 g1;have HK:=oH b0;clear b0 a7 a6;go_wp2_with fail;refine bodyPost_ret (v:=.tuple #[.agg #[.slice C c.Nd.length cp,.slice D k dp],.bool false]) (by simp[results,Tryz.f91,go_sem,g0,g1]) rfl ⟨_,_,_,_,_,_,false,rfl,(au fun h=>?_).symm,dV HK.out,fun h=>?_⟩
 ·have:=(h.2 b (mG HR.2.2.2.2.2)).1
  have:=(h.2 b (mG HR.2.2.2.2.2)).2.1;omega
 have:=(h.2 b (mG HR.2.2.2.2.2)).1;have:=(h.2 b (mG HR.2.2.2.2.2)).2.1;omega)
 obtain rfl:k=c.Nf.length:=by omega
 rw[oF (by rw[List.length_mapIdx];omega)] at R;have e9:∀b∈c.Nf,lX p b:=fun a ha=>by obtain⟨i,hi⟩:=List.getElem?_of_mem ha;exact a1 i a (lS.1 hi).1 hi
 have hF:=R.read (bw:=72) nj (by rw[List.length_mapIdx];omega);have o0:=J.cell 0;have o1:=J.cell 1;have a6:=(HW.2.2.2.2.kept HO.1 (by show _≠_;omega)).kept Y (by show _≠_;omega);have r0:=a6.cell 0;have r1:=a6.cell 1;have f0:=a6.free 0;have f1:=a6.free 1;have b0:=(((HO.1.trans Y).mono fun b (Z:b≠w.heap.size+1+1+1∧b≠w.heap.size+1+1)=>Z.1).setCell (p:=⟨w.heap.size+1+1,0,none⟩) (.inl fun h=>h.2 rfl) (.slice C c.Nd.length cp)).setCell (p:=⟨w.heap.size+1+1,1,none⟩) (.inl fun h=>h.2 rfl) (.slice D c.Nf.length dp);have k7:=((aa.refl (fun b=>w.heap.size+4≤b) wr).setCell (p:=⟨w.heap.size+1+1,0,none⟩) (.inl (by show¬(w.heap.size+4≤w.heap.size+1+1);omega)) (.slice C c.Nd.length cp)).setCell (p:=⟨w.heap.size+1+1,1,none⟩) (.inl (by show¬(w.heap.size+4≤w.heap.size+1+1);omega)) (.slice D c.Nf.length dp);have a7:=(a6.set 0 (.slice C c.Nd.length cp)).set 1 (.slice D c.Nf.length dp);have g0:=a7.cell 0;have g1:=a7.cell 1;simp only[ga,gc] at o0 o1 r0 r1 g0 g1;have HX:=J5 b0 k7 Y hF e9;clear b0 k7 Y hF e9 a1 R a7 J a6 h8 d1;go_wp2_with fail;refine bodyPost_ret (v:=.tuple #[.agg #[.slice C c.Nd.length cp,.slice D c.Nf.length dp],.bool true]) (by simp[results,Tryz.f91,go_sem,g0,g1]) rfl ⟨_,_,_,_,_,_,true,rfl,(av (P:=pi p c) ⟨HO.2.2.2.1,HX.2.2.2.2⟩).symm,dV (HW.2.2.1.all.trans (HX.1.mono fun b Z=>by constructor<;>(show b≠_)<;>omega)),fun _=>⟨_,_,rfl,?_,?_⟩⟩;·exact lJ.wide (fun b Z=>by have:w.heap.size+4≤b∧b<wo.heap.size:=Z;have:=HX.2.1.size;have:=HX.2.2.1.size;omega) (lJ.keep ((HX.2.2.1.mono fun b (Z:w.heap.size+4≤b∧b<wo.heap.size)=>by show b≠_;omega).trans (HX.2.1.mono fun b Z=>Z.1)) HO.2.2.1)
 exact iX.wide (fun b Z=>by have:wo.heap.size≤b∧b<wr.heap.size:=Z;have:=HX.2.1.size;have:=HX.2.2.1.size;omega) (iX.keep (HX.2.1.mono fun b (Z:wo.heap.size≤b∧b<wr.heap.size)=>by omega) HX.2.2.2.1)
end Go.Proofs.YtncdbjponknakaaGreatDoor
