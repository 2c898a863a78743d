/- Part 14 of the proof (its last part says what is proved). No condition. -/
import Derived.Test.YtccbbkopmlnkpaaGreatDoorK12
namespace Go.Proofs.YtccbbkopmlnkpaaGreatDoor
set_option maxRecDepth 100000
set_option maxHeartbeats 8000000
open Go.RowKit Go.Proofs.Tryz
structure lY (c:aE):Prop where
 Nd:c.Nd.length≤1048576
 Nf:c.Nf.length≤1048576
 Ng:∀b∈c.Nf,b.Ng.length≤1048576
 ops:∀b∈c.Nf,∀l∈b.Ng,l.length≤1048576
 op:∀b∈c.Nf,∀l∈b.Ng,∀x∈l,Cv x
theorem Jl:(prog.info? 144).map (fun i=>(i.zero,i.size,i.bytes))=some (some (.agg #[.string ⟨#[]⟩,.int .i64 0,.string ⟨#[]⟩,.int .i64 0]),4,48):=by kernel_rfl
theorem Jm:(prog.info? 171).map (fun i=>(i.zero,i.size,i.bytes))=some (some (.agg #[.string ⟨#[]⟩,.slice none 0 0,.int .i64 0]),3,48):=by kernel_rfl
theorem Ld:(prog.info? 148).map (fun i=>(i.zero,i.size,i.bytes))=some (some (.agg #[.string ⟨#[]⟩,.slice none 0 0,.slice none 0 0,.int .i64 0]),4,72):=by kernel_rfl
theorem Jo:(prog.info? 185).map (fun i=>(i.zero,i.size,i.bytes))=some (some (.agg #[.int .u8 0,.int .u8 0,.string ⟨#[]⟩,.string ⟨#[]⟩,.string ⟨#[]⟩,.slice none 0 0,.slice none 0 0,.int .i64 0,.int .i64 0]),9,120):=by kernel_rfl
theorem KJ {p:aH}{k:Nat}{j:Int×Int}{o:ByteArray}(C:p.MZ[j.2.toNat]? =some o)(I:aV j.1)(J:kj p)(S:Nat→Prop)(w:World):EB S w [.string (aL 97 (k:Int)),.int .i64 j.1,.string o,.int .i64 0] (sa p k j):=by
 have e:p.MZ.getD j.2.toNat gR=o:=by rw[iG,C];rfl
 have R:=fa 97 (k:Int);have Y:=J.MZ o (mG C);refine⟨?_,I,?_,?_,?_⟩
 ·show [Value.string (aL 97 (k:Int)),.int .i64 j.1,.string o,.int .i64 0]=[Value.string (aL 97 (k:Int)),.int .i64 j.1,.string (p.MZ.getD j.2.toNat gR),.int .i64 0]
  rw[e]
 ·show aV 0
  unfold aV;omega
 ·show(aL 97 (k:Int)).size≤_
  omega
 show(p.MZ.getD j.2.toNat gR).size≤_;rw[e];omega
theorem Iu {p:aH}{main:Int}{k:Nat}{b:aw}{o:ByteArray}{S:Nat→Prop}{w:World}{C a2:Option Addr}{I J R Y:Nat}(j:qY main k=o)(h1:gB S w (.slice C I J) ((List.range b.params.toNat).map fun(k:Nat)=>aL 118 k))(h2:mJ S w (.slice a2 R Y) (b.Ng.mapIdx (eh p main))):
 uA S w [.string o,.slice C I J,.slice a2 R Y,.int .i64 0] (bU p main k b):=by
 subst j;refine⟨_,_,rfl,h1,h2,?_,?_,fun s hs=>?_⟩
 ·show aV 0
  unfold aV;omega
 ·show(qY main k).size≤_;unfold qY;split;·decide
  have:=fa 102 (k:Int);omega
 obtain⟨i,_,rfl⟩:=dr.1 hs;have:=fa 118 (i:Int);omega
theorem Fa {p:aH}{main:Int}{k:Nat}{l:List bz}{S:Nat→Prop}{w:World}{j:Option Addr}{o C:Nat}(I:Im S w (.slice j o C) (l.map (jC p main))):
 qh S w [.string (aL 98 (k:Int)),.slice j o C,.int .i64 0] (eh p main k l):=by
 refine⟨_,rfl,I,?_,?_⟩
 ·show aV 0
  unfold aV;omega
 show(aL 98 (k:Int)).size≤_;have:=fa 98 (k:Int);omega
theorem Jp {S:Nat→Prop}{w:World}{cs:List Value}{x:cX}(h:zH S w cs x):zH (fun b=>S b∧b<w.heap.size) w cs x:=by obtain⟨a,f,e,j,o,C⟩:=h;exact⟨a,f,e,rF j,rF o,C⟩
theorem yA {S:Nat→Prop}{a w:World}(h:aa (fun b=>S b∧b<a.heap.size) a w):aa S a w:=⟨h.os,h.output,h.size,fun k j o=>h.block k j ⟨o,j⟩⟩
theorem tO {α β:Type}{l:List α}{g:Nat→α→β}{k:Nat}{a:α}(h:l[k]? =some a):(l.mapIdx g).take (k+1)=(l.mapIdx g).take k++[g k a]:=by rw[cU,jA,h];rfl
abbrev Kw:=dR 4 144 EB
abbrev BB:=dR 4 148 uA
abbrev xB:=dR 3 171 qh
abbrev EI:=dR 9 185 zH
def EP (p:aH)(c:aE)(w:World)(e:Ending)(j:World):Prop:=∃(o:Option Addr) (C I:Nat) (J:Option Addr) (R Y:Nat) (b:Bool),e=.returned (.tuple #[.agg #[.slice o C I,.slice J R Y],.bool b])∧b=pB (pi p c)∧aa All w j∧(pi p c→BF (fun b=>w.heap.size≤b∧b<j.heap.size) j (.agg #[.slice o C I,.slice J R Y]) (cP p c))
theorem DM (S:Nat→Prop)(pv cv:Value)(p:aH)(c:aE)(w:World)(hp:dJ S w pv p)(hc:cQ S w cv c)(s3:kj p)(hz:lY c):
 Calls prog 53 #[pv,cv] w (EP p c w):=by
 obtain⟨iA,IA⟩:=iH Jl;obtain⟨iB,IB⟩:=iH Jm;obtain⟨iF,IF⟩:=iH Ld;obtain⟨iI,II⟩:=iH Jo;obtain⟨iS,IS⟩:=iH FV;have s4:=cB.la hp;obtain⟨F7,vu,vi,vo,rfl,s5,C3,C4,C5,C6⟩:=hp;have s6:=ax.la s5;obtain⟨vl,cl,rfl,q1,q2,q3,_⟩:=s5;obtain⟨a,f,rfl,s7,s8,C7⟩:=hc;have s9:=bu.la s7;have v7:=bV.la s8;obtain⟨A1,c1,rfl,l1,l2,l3,_⟩:=s7;obtain⟨A2,c2,rfl,m1,m2,m3,_⟩:=s8;unfold maxLen at l2 m2;obtain⟨W0,i6⟩:=eQ (((((w.alloc (.cells #[.slice vl p.MZ.length cl,vu,vi,vo,.int .i64 p.Nc] 26)).alloc (.cells #[.slice A1 c.Nd.length c1,.slice A2 c.Nf.length c2,.int .i64 c.main] 30)).alloc (.cells #[.slice none 0 0,.slice none 0 0] 81)).alloc (.cells #[.slice none 0 0,.slice none 0 0] 81)));have v8:=aD4 i6;have w0:=aC4 i6;have w1:=aA3 i6;have w3:=aB2 i6 aE1;have w6:=aB1 i6 aE2;have w7:=aB0 i6 aE3;have HW:=J5 i6 v8 w0 w7 w6;have HP:=J7 w1 w3 s4 s6 s9 v7 C7;have HZ:=J2 s3 hz;have za:=hz.Nd;have zf:=hz.Nf;clear i6 v8 w0 w7 w6 w1 w3 s4 s6 s9 v7 C3 C4 C5 C6 hz s3;go_enter func53,ntmps53;go_upto_region 2 with fail;rw[←HW.1];have c0:=HP.2.1.cl 0;go_wp2_with fail;go_loopg [23] c.Nd.length (fun g C8 wr=>∃(k:Nat) (vA:Value),k≤c.Nd.length∧g=c.Nd.length-k∧C8=.int .i64 k∧aa (fun b=>b≠w.heap.size+1+1+1) W0 wr∧al wr (w.heap.size+1+1+1) 81 #[vA,.slice none 0 0]∧Kw (w.heap.size+4) wr vA ((c.Nd.mapIdx (sa p)).take k)∧∀(i:Nat) a,i<k→c.Nd[i]? =some a→0≤a.2∧a.2<p.MZ.length);·exact⟨0,_,by omega,by omega,rfl,kR,HW.2.2.2.1,dR.nil,fun i a h=>by omega⟩
 obtain⟨k,vA,hk,rfl,rfl,R,I,J,a1⟩:=hrel;have h8:aa All w wr:=dV (HW.2.2.1.all.trans (R.mono fun b Y=>by show b≠_;omega));by_cases p9:k<c.Nd.length;·(
 obtain⟨C,cp,rfl⟩:=J.form;have j1:((c.Nd.mapIdx (sa p)).take k).length=k:=by rw[fN,List.length_mapIdx];omega
 rw[j1] at J I;obtain⟨ar,q5⟩:=eG p9;obtain⟨bb,o,cs,rfl,C9,D0,a8,rfl,w9,F2⟩:=aZ (HP.2.2.2.2.1 wr h8) q5;have x0:=a8 0 _ rfl;rw[dj] at x0;have x1:=a8 1 _ rfl;obtain⟨W1,d7⟩:=eQ (wr.alloc (.cells #[.int .i64 ar.1,.int .i64 ar.2] 99));have j9:=aC1 d7;have b1:=aA0 d7;have k3:=aD1 d7;have o5:=R.size;rw[HW.2.1] at o5;have HR:=J6 R I J a1 h8 q5;have H1:=J5 d7 j9 b1 w9 k3;have e1:=b1.cl 1;have e0:=b1.cl 0;have p0:=((HP.1.kept R (by show _≠_;omega)).kept j9 trivial).cl 0;clear a8 R I J a1 h8 q5 d7 j9 b1 k3;go_upto_region 5 with fail;rw[←H1.1];by_cases ok:0≤ar.2∧ar.2<p.MZ.length;·(
 obtain⟨k4,q6⟩:=ok;have t1:decide (ar.2<0)=false:=by simp;omega
 have t2:decide ((p.MZ.length:Int)≤ar.2)=false:=by simp;omega
 obtain⟨lv,q7⟩:∃lv,p.MZ[ar.2.toNat]? =some lv:=⟨_,lG (by omega)⟩;obtain⟨vb,x3,vv,rfl,_,x4,rfl⟩:=bn (HP.2.2.2.1 W1 (HR.2.2.2.2.1.trans H1.2.1)) q7;go_wp2_with fail;have hq:∀wn,aa All W1 wn→wn.cell? ⟨w.heap.size+1+1+1,0,none⟩=some (.slice C k cp)∧wn.cell? ⟨wr.heap.size,0,none⟩=some (.int .i64 ar.1)∧wn.cell? ⟨wr.heap.size,1,none⟩=some (.int .i64 ar.2)∧wn.cell? ⟨w.heap.size,0,none⟩=some (.slice (some ⟨vb,x3,none⟩) p.MZ.length cl)∧wn.cell? ⟨vb,x3+ar.2.toNat,none⟩=some (.string lv):=fun wn hk=>
  ⟨((HR.2.1.kept H1.2.1 trivial).kept hk trivial).cell 0,hk.cell trivial e0,hk.cell trivial e1,hk.cell trivial p0,hk.cell trivial x4⟩
 have HN:=J3 hq (fun wn=>ez 97 (k:Int) (by unfold aV;omega) wn) q7;clear hq q7 x4;refine R1 14 W1 [53] (fun _ v wn=>∃g,v=.slice (some ⟨g,0,none⟩) 1 1∧W1.heap.size≤g∧al wn g 144 #[.string (aL 97 (k:Int)),.int .i64 ar.1,.string lv,.int .i64 0]) (fun i=>if i=3 then some (·=.string (aL 97 (k:Int))) else if i=13 then some (fun v=>∃g,v=.slice (some ⟨g,0,none⟩) 1 1) else none) ?_;refine O0 ?_;refine O3 (fun wn hk hp=>by(have e1:=HN.1 wn hk;have q0:=e1.1;have q1:=e1.2.1;have q2:=e1.2.2.1;have q3:=e1.2.2.2.1;have q4:=e1.2.2.2.2;go_simp;with_reducible rfl)) ?_;refine O0 ?_;refine tW (v:=.string (aL 97 (k:Int))) (by rfl) (by rfl) (by rfl) (by intro d hd;cases hd;decide) (fun wn hk hp=>⟨_,_,by(go_simp<;>with_reducible rfl),(HN.2.1 wn).mono fun e w' h=>⟨h.1,hk.trans h.2,fun t _ v ⟨g,e,h1,h2⟩=>⟨g,e,h1,h2.kept h.2 trivial⟩⟩⟩) ?_;simp only[PS];iterate 9 first|refine O3 (fun wn hk hp=>by(have e1:=HN.1 wn hk;have q0:=e1.1;have q1:=e1.2.1;have q2:=e1.2.2.1;have q3:=e1.2.2.2.1;have q4:=e1.2.2.2.2;go_simp;with_reducible rfl)) ?_|refine O0 ?_
 refine OB fun g wt _ d8 D1 k5=>?_;have q8:=HR.2.2.1.keep pH (H1.2.1.trans d8) (fun _ _ _=>trivial);have d9:=(HR.2.1.kept H1.2.1 trivial).kept d8 trivial;have o6:=d8.size;rw[H1.2.2.2.2] at o6;have HT:=J4 d8 d9 k5 q8;clear d8 d9 k5;go_wp2_with (
  at_builtin;go_loud (
  refine bN (E:=EB) _ pH rfl (.tmp 41) (.tmp 53) 78 rfl iA _ 48 underlying78 IA.1 IA.2.1 IA.2.2.1 IA.2.2.2 rfl (by decide) _ _ rfl HT.2.2.2 g 0 1 rfl [.string (aL 97 (k:Int)),.int .i64 ar.1,.string lv,.int .i64 0] (sa p k ar) rfl ?_ ?_ (by rw[j1];omega) (by omega) ?_ (fun _=>False) ?_ ?_ ?_;·intro j u hu;rw[cN,HT.2.2.1.cell,List.getElem?_toArray];exact hu
  ·intro u hu;simp only[fX,List.not_mem_nil,or_false] at hu;rcases hu with rfl|rfl|rfl|rfl<;>rfl
  ·omega
  ·intro b Y
   exact Y.elim
  ·exact KJ HN.2.2 H1.2.2.2.1 HZ.1 _ _
  intro C2 k6 w2 k7 b2 c5;have a7:=HT.2.1.grown b2 (fun e=>by have:=(c5 _ e.symm);omega);have y0:=a7.cl 0;have y1:=a7.free 0;have H2:=J4 a7 k7 b2 c5;clear a7 k7 b2 c5))
 go_roundg (c.Nd.length-(k+1))
 ·refine⟨k+1,.slice C2 (k+1) k6,by omega,rfl,by go_num,(((HR.1.trans (H1.2.1.trans HT.1).all).grown H2.2.2.1 fun b Y=>.inr (by have:=H2.2.2.2 b Y;have:=HW.2.1;omega)).setCell (.inl fun h=>h rfl) _),by simpa using H2.1.set 0 (.slice C2 (k+1) k6),?_,fun i x hi hx=>?_⟩
  ·rw[tO HR.2.2.2.2.2]
   have h3:=H2.2.1;rw[j1] at h3;exact h3.keep pH ((aa.refl (fun b=>b≠w.heap.size+1+1+1) _).setCell (.inl fun h=>h rfl) _) fun b Y k8=>by show b≠_;omega
  by_cases e:i=k;·subst e;rw[HR.2.2.2.2.2] at hx;injection hx with hx;subst hx;exact⟨k4,q6⟩
  exact HR.2.2.2.1 i x (by omega) hx
 omega)
 by_cases k4:ar.2<0
 ·have t1:decide (ar.2<0)=true:=by simp;omega
  have o0:=(HR.2.1.kept H1.2.1 trivial).cl 0;have o1:=(HR.2.1.kept H1.2.1 trivial).cl 1;have r0:=((HW.2.2.2.2.kept HR.1 (by show _≠_;omega)).kept H1.2.1 trivial).cl 0;have r1:=((HW.2.2.2.2.kept HR.1 (by show _≠_;omega)).kept H1.2.1 trivial).cl 1;have f0:=((HW.2.2.2.2.kept HR.1 (by show _≠_;omega)).kept H1.2.1 trivial).free 0;have f1:=((HW.2.2.2.2.kept HR.1 (by show _≠_;omega)).kept H1.2.1 trivial).free 1;go_wp2_with fail;have b0:=((((HR.1.trans H1.2.1.all).mono fun b (Y:b≠w.heap.size+1+1+1∧b≠w.heap.size+1+1)=>Y.1).setCell (p:=⟨w.heap.size+1+1,0,none⟩) (.inl fun h=>h.2 rfl) (.slice C k cp)).setCell (p:=⟨w.heap.size+1+1,1,none⟩) (.inl fun h=>h.2 rfl) (.slice none 0 0));have a7:=(((HW.2.2.2.2.kept HR.1 (by show _≠_;omega)).kept H1.2.1 trivial).set 0 (.slice C k cp)).set 1 (.slice none 0 0);have g0:=a7.cell 0;have g1:=a7.cell 1;simp only[ga,gc] at g0 g1;refine bodyPost_ret (v:=.tuple #[.agg #[.slice C k cp,.slice none 0 0],.bool false]) (by simp[results,Tryz.f53,go_sem,g0,g1]) rfl ⟨_,_,_,_,_,_,false,rfl,(au fun h=>?_).symm,dV (HW.2.2.1.all.trans (b0.mono fun b Y=>by constructor<;>(show b≠_)<;>omega)),fun h=>?_⟩;·have:=h.1 ar (mG HR.2.2.2.2.2);omega
  have:=h.1 ar (mG HR.2.2.2.2.2);omega
 have t1:decide (ar.2<0)=false:=by simp;omega
 have t2:decide ((p.MZ.length:Int)≤ar.2)=true:=by simp;omega
 have o0:=(HR.2.1.kept H1.2.1 trivial).cl 0;have o1:=(HR.2.1.kept H1.2.1 trivial).cl 1;have r0:=((HW.2.2.2.2.kept HR.1 (by show _≠_;omega)).kept H1.2.1 trivial).cl 0;have r1:=((HW.2.2.2.2.kept HR.1 (by show _≠_;omega)).kept H1.2.1 trivial).cl 1;have f0:=((HW.2.2.2.2.kept HR.1 (by show _≠_;omega)).kept H1.2.1 trivial).free 0;have f1:=((HW.2.2.2.2.kept HR.1 (by show _≠_;omega)).kept H1.2.1 trivial).free 1;go_wp2_with fail;have b0:=((((HR.1.trans H1.2.1.all).mono fun b (Y:b≠w.heap.size+1+1+1∧b≠w.heap.size+1+1)=>Y.1).setCell (p:=⟨w.heap.size+1+1,0,none⟩) (.inl fun h=>h.2 rfl) (.slice C k cp)).setCell (p:=⟨w.heap.size+1+1,1,none⟩) (.inl fun h=>h.2 rfl) (.slice none 0 0));have a7:=(((HW.2.2.2.2.kept HR.1 (by show _≠_;omega)).kept H1.2.1 trivial).set 0 (.slice C k cp)).set 1 (.slice none 0 0);have g0:=a7.cell 0;have g1:=a7.cell 1;simp only[ga,gc] at g0 g1;refine bodyPost_ret (v:=.tuple #[.agg #[.slice C k cp,.slice none 0 0],.bool false]) (by simp[results,Tryz.f53,go_sem,g0,g1]) rfl ⟨_,_,_,_,_,_,false,rfl,(au fun h=>?_).symm,dV (HW.2.2.1.all.trans (b0.mono fun b Y=>by constructor<;>(show b≠_)<;>omega)),fun h=>?_⟩;·have:=h.1 ar (mG HR.2.2.2.2.2);omega
 have:=h.1 ar (mG HR.2.2.2.2.2);omega)
 obtain rfl:k=c.Nd.length:=by omega
 rw[oF (by rw[List.length_mapIdx];omega)] at J;have e9:∀a∈c.Nd,0≤a.2∧a.2<p.MZ.length:=fun a ha=>by obtain⟨i,hi⟩:=List.getElem?_of_mem ha;exact a1 i a (lS.1 hi).1 hi
 have hA:=J.read (bw:=48) pH (by rw[List.length_mapIdx];omega);obtain⟨C,cp,rfl⟩:=J.form;rw[List.length_mapIdx] at hA I;have d1:=(HP.2.1.kept R (by show _≠_;omega)).cl 1;have x5:=R.size;rw[HW.2.1] at x5;obtain⟨wo,rfl⟩:=eQ wr;have HO:=J5 R I hA e9 h8;clear R I J hA a1 e9 h8;go_wp2_with fail;go_loopg [60] c.Nf.length (fun g D3 wr=>∃(k:Nat) (vF:Value),k≤c.Nf.length∧g=c.Nf.length-k∧D3=.int .i64 k∧aa (fun b=>b≠w.heap.size+1+1+1) wo wr∧al wr (w.heap.size+1+1+1) 81 #[.slice C c.Nd.length cp,vF]∧BB wo.heap.size wr vF ((c.Nf.mapIdx (bU p c.main)).take k)∧∀(i:Nat) b,i<k→c.Nf[i]? =some b→lX p b);·exact⟨0,_,by omega,by omega,rfl,kR,HO.2.1,dR.nil,fun i a h=>by omega⟩
 obtain⟨k,vF,hk,rfl,rfl,R,I,J,a1⟩:=hrel;have h8:aa All w wr:=dV (HW.2.2.1.all.trans ((HO.1.trans R).mono fun b Y=>by show b≠_;omega));have o5:=R.size;obtain⟨D,dp,rfl⟩:=J.form;have j1:((c.Nf.mapIdx (bU p c.main)).take k).length=k:=by rw[fN,List.length_mapIdx];omega
 rw[j1] at J I;by_cases p9:k<c.Nf.length;·(
 obtain⟨b,Y⟩:=eG p9;have n7:=mG Y;obtain⟨bb,o,cs,rfl,C9,D0,a8,vb,rfl,x6,F8,F9⟩:=aZ (HP.2.2.2.2.2.1 wr h8) Y;have x0:=a8 0 _ rfl;rw[dj] at x0;have x1:=a8 1 _ rfl;have x2:=a8 2 _ rfl;have o7:=bg.la x6;obtain⟨A3,c3,rfl,n1,n2,n3,_⟩:=x6;unfold maxLen at n2;have zb:=HZ.2.Ng b n7;have zo:=HZ.2.ops b n7;have zx:=HZ.2.op b n7;obtain⟨W1,d7⟩:=eQ (wr.alloc (.cells #[.int .i64 b.params,.int .i64 b.vars,.slice A3 b.Ng.length c3] 35));have j9:=aC1 d7;have b1:=aA0 d7;have k3:=aD1 d7;obtain⟨wf,rfl⟩:=eQ wr;have HR:=J6 R I J a1 h8 Y;have H1:=J7 d7 j9 b1 k3 o7 zo zx;have HN:=oH (fun wn=>ez 102 (k:Int) (by unfold aV;omega) wn);clear a8 R I J a1 h8 Y d7 j9 b1 k3 o7 zo zx n7;go_upto_region 12 with fail;rw[←H1.1];go_wp2_with fail;refine(HN.out _).mono ?_;rintro e w2 ⟨rfl,b0⟩;have D4:=b0.size;rw[H1.2.2.2.1] at D4;obtain⟨W3,k0⟩:=eQ (w2.alloc (.cells #[.string (aL 102 (k:Int)),.slice none 0 0,.slice none 0 0,.int .i64 0] 148));have k9:aa All wf W3:=by rw[k0];exact(H1.2.1.trans b0).alloc _
 have b3:=aA0 k0;have b1:al W3 wf.heap.size 35 #[.int .i64 b.params,.int .i64 b.vars,.slice A3 b.Ng.length c3]:=by rw[k0];exact(H1.2.2.1.kept b0 trivial).alloc _
 have x7:=aD1 k0;have H3:=J5 k0 k9 b3 b1 x7;clear b0 k0 k9 b3 b1 x7;go_upto_region 13 with fail;rw[←H3.1];have m2:=(((HP.2.1.kept HO.1 (by show _≠_;omega)).kept HR.1 (by show _≠_;omega)).kept H3.2.1 trivial).cl 2;go_upto_if 71 with fail;obtain⟨FN,l0⟩:=eR (qY c.main k);go_cut [] (fun wx=>aa (fun b=>b≠w2.heap.size) W3 wx∧al wx w2.heap.size 148 #[.string FN,.slice none 0 0,.slice none 0 0,.int .i64 0])
 case first=>(
 have q0:=H3.2.2.1.cl 0;have f0:=H3.2.2.1.free 0;by_cases em:(k:Int)=c.main
 ·have tm:((k:Int)==c.main)=true:=by rw[cy];exact em
  have HE:=oH (show FN=⟨#[109,97,105,110]⟩ by rw[←l0];unfold qY;simp[em,fO]);clear em l0;go_wp2_with fail;go_meet;exact⟨kR.setCell (.inl fun h=>h rfl) _,by rw[HE.out];simpa using H3.2.2.1.set 0 (.string ⟨#[109,97,105,110]⟩)⟩
 have tm:((k:Int)==c.main)=false:=by rw[bE];exact em
 have HE:=oH (show FN=aL 102 (k:Int) by rw[←l0];unfold qY;simp[em]);clear em l0;go_wp2_with fail;go_meet;exact⟨kR,by rw[HE.out];exact H3.2.2.1⟩)
 obtain⟨n8,x8⟩:=hcut;have x9:=n8.size;rw[H3.2.2.2.2] at x9;have b1:=H3.2.2.2.1.kept n8 (by show _≠_;omega);have e0:=b1.cl 0;have HX:=J3 n8 x8 b1;clear n8 x8 b1 m2;by_cases ok:0≤b.params∧b.params≤6;·(
 obtain⟨k4,q6⟩:=ok;have t1:decide (b.params<0)=false:=by simp;omega
 have t2:decide ((6:Int)<b.params)=false:=by simp;omega
 obtain⟨pn,D5⟩:∃pn:Nat,b.params.toNat=pn:=⟨_,rfl⟩;have HB:=J3 k4 q6 D5;go_wp2_with fail;go_loopg [84] pn (fun g D6 wr=>∃(j:Nat) (v1:Value),j≤pn∧g=pn-j∧D6=.int .i64 j∧aa (fun b=>b≠w2.heap.size) wc wr∧al wr w2.heap.size 148 #[.string FN,v1,.slice none 0 0,.int .i64 0]∧wr.ownsRow wc.heap.size 9 1 v1 j (de ((List.range j).map fun(k:Nat)=>aL 118 k)));·exact⟨0,_,by omega,by omega,rfl,kR,HX.2.1,⟨rfl,.inl ⟨rfl,rfl⟩⟩⟩
 obtain⟨j,v1,hj,rfl,rfl,R,I,h0⟩:=hrel;have D7:=R.size;by_cases o8:j<pn;·(
 have t5:decide ((j:Int)<b.params)=true:=by simp;omega
 have hn:=fun wn=>ez 118 (j:Int) (by unfold aV;omega) wn;obtain⟨E1,ep,rfl⟩:=aU h0;have y4:∀wn,aa All wr wn→wn.cell? ⟨w2.heap.size,1,none⟩=some (.slice E1 j ep):=fun wn hk=>(I.kept hk trivial).cell 1;have y6:=J2 hn y4;have q9:=J3 R I h0;clear hn y4 R I h0;go_wp2_with fail;refine R1 5 wr [91] (fun _ v wn=>∃g,v=.slice (some ⟨g,0,none⟩) 1 1∧wr.heap.size≤g∧al wn g 9 #[.string (aL 118 (j:Int))]) (fun i=>if i=3 then some (·=.string (aL 118 (j:Int))) else if i=4 then some (fun v=>∃g,v=.slice (some ⟨g,0,none⟩) 1 1) else none) ?_;refine O0 ?_;refine O3 (fun wn hk hp=>by(have e1:=y6.2 wn hk;go_simp;with_reducible rfl)) ?_;refine O0 ?_;refine tW (v:=.string (aL 118 (j:Int))) (by rfl) (by rfl) (by rfl) (by intro d hd;cases hd;decide) (fun wn hk hp=>⟨_,_,by(go_simp<;>with_reducible rfl),(y6.1 wn).mono fun e w' h=>⟨h.1,hk.trans h.2,fun t _ v ⟨g,e,h1,h2⟩=>⟨g,e,h1,h2.kept h.2 trivial⟩⟩⟩) ?_;simp only[PS];refine OB fun g wt _ d8 D1 k5=>?_;have j2:=be q9.2.2 d8 (fun _ _=>trivial);have d9:=q9.2.1.kept d8 trivial;have n9:=k5.cl 0;have o6:=d8.size;have HT:=J3 d8 d9 n9;clear d8 d9 k5;go_wp2_with (
  at_builtin;go_loud (
  refine aR _ rfl (.tmp 88) (.tmp 91) 22 rfl wc.heap.size 9 iS _ 1 16 underlying22 IS.1 IS.2.1 IS.2.2.1 IS.2.2.2 rfl (by decide) _ _ _ rfl j2 (some ⟨g,0,none⟩) 1 1 [.string (aL 118 (j:Int))] rfl rfl ?_ ?_ (by unfold maxLen;omega) (by omega) (by omega) ?_;·(
 intro _;exact⟨_,_,rfl,fun j u hu=>by
  rcases j with _|j;·rw[cN,HT.2.2];exact hu
  simp at hu⟩)
  ·intro u hu
   rw[cx.1 hu];rfl
  intro v2 w4 j3 b2 o9;obtain⟨C2,k6,rfl⟩:=aU j3;have j6:=HT.2.1.grown b2 (fun e=>by have:=(aD j2 e.symm).1;omega);have y5:=j6.cl 1;have f5:=j6.free 1;have H2:=J4 j6 j3 b2 o9;clear j6 j3 b2 o9))
 go_roundg (pn-(j+1))
 ·refine⟨j+1,.slice C2 (j+1) k6,by omega,rfl,by go_num,(((q9.1.trans HT.1.all).grown H2.2.2.1 fun b Y=>.inr (aD j2 Y).1).setCell (.inl fun h=>h rfl) _),?_,?_⟩
  ·have:=H2.1.set 1 (.slice C2 (j+1) k6)
   simpa using this
  have e:de ((List.range (j+1)).map fun(k:Nat)=>aL 118 k)=de ((List.range j).map fun(k:Nat)=>aL 118 k)++[.string (aL 118 (j:Int))]:=by rw[List.range_succ];simp[de]
  rw[e];exact be H2.2.1 ((aa.refl (fun b=>b≠w2.heap.size) _).setCell (.inl fun h=>h rfl) _) fun b Y=>by have:=(aD H2.2.1 Y).1;show b≠_;omega
 omega)
 obtain rfl:pn=j:=by omega
 have t5:decide ((pn:Int)<b.params)=false:=by simp;omega
 have y7:=rF (pY (S:=fun b=>wc.heap.size≤b) h0 (l:=(List.range pn).map fun(k:Nat)=>aL 118 k) (by simp) (by simp;omega) fun g hg=>(aD h0 hg).1);obtain⟨E1,ep,rfl⟩:=aU h0;have b1:=HX.2.2.kept R (by show _≠_;omega);have e2:=b1.cl 2;obtain⟨wp,rfl⟩:=eQ wr;have o2:=J3 R I y7;clear R I y7 h0 b1;go_wp2_with fail;go_loopg [98] b.Ng.length (fun g D8 wr=>∃(j:Nat) (vB:Value),j≤b.Ng.length∧g=b.Ng.length-j∧D8=.int .i64 j∧aa (fun b=>b≠w2.heap.size) wp wr∧al wr w2.heap.size 148 #[.string FN,.slice E1 pn ep,vB,.int .i64 0]∧xB wp.heap.size wr vB ((b.Ng.mapIdx (eh p c.main)).take j)∧∀(i:Nat) l,i<j→b.Ng[i]? =some l→∀x∈l,dx p x);·exact⟨0,_,by omega,by omega,rfl,kR,o2.2.1,dR.nil,fun i a h=>by omega⟩
 obtain⟨j,vB,hj,rfl,rfl,R,I,J,a1⟩:=hrel;have D9:=R.size;obtain⟨E2,bp,rfl⟩:=J.form;have l4:((b.Ng.mapIdx (eh p c.main)).take j).length=j:=by rw[fN,List.length_mapIdx];omega
 rw[l4] at J I;by_cases o8:j<b.Ng.length;·(
 obtain⟨l,hl⟩:=eG o8;have r3:=mG hl;have b5:aa (fun b=>b≠w2.heap.size) wf wr:=(H3.2.1.all.trans HX.1).trans (o2.1.trans R);have j4:aa All wf wr:=dV (b5.mono fun b Y=>by show b≠_;omega);obtain⟨lb,lo,lv,rfl,G0,G1,y8⟩:=bn (H1.2.2.2.2.1 wr j4) hl;have p5:=cT.la y8;obtain⟨A4,c4,rfl,z1,z2,z3,_⟩:=y8;unfold maxLen at z2;have zl:=H1.2.2.2.2.2.1 l r3;have zy:=H1.2.2.2.2.2.2 l r3;have E0:=oH (fun wn=>ez 98 (j:Int) (by unfold aV;omega) wn);obtain⟨wb,rfl⟩:=eQ wr;have c8:=J9 R I J a1 hl p5 zy b5 j4;clear R I J a1 hl p5 zy b5 j4 r3;go_wp2_with fail;refine(E0.out _).mono ?_;rintro e w5 ⟨rfl,r4⟩;have G2:=r4.size;obtain⟨W6,l5⟩:=eQ (w5.alloc (.cells #[.string (aL 98 (j:Int)),.slice none 0 0,.int .i64 0] 171));have y9:aa All wb W6:=by rw[l5];exact r4.alloc _
 have b6:=aA0 l5;have r5:=aD1 l5;have H6:=J4 l5 y9 b6 r5;clear r4 l5 y9 b6 r5;go_upto_region 26 with fail;rw[←H6.1];go_wp2_with fail;go_loopg [108] l.length (fun g A0 wr=>∃(i:Nat) (vI:Value),i≤l.length∧g=l.length-i∧A0=.int .i64 i∧aa (fun b=>b≠w5.heap.size) W6 wr∧al wr w5.heap.size 171 #[.string (aL 98 (j:Int)),vI,.int .i64 0]∧EI W6.heap.size wr vI ((l.map (jC p c.main)).take i)∧∀(i':Nat) x,i'<i→l[i']? =some x→dx p x);·exact⟨0,_,by omega,by omega,rfl,kR,H6.2.2.1,dR.nil,fun i a h=>by omega⟩
 obtain⟨i,vI,hi,rfl,rfl,R,I,J,a1⟩:=hrel;have r6:=R.size;rw[H6.2.2.2] at r6;obtain⟨E3,ip,rfl⟩:=J.form;have l6:((l.map (jC p c.main)).take i).length=i:=by rw[fN,ce];omega
 rw[l6] at J I;by_cases A5:i<l.length;·(
 obtain⟨x,hx⟩:=eG A5;have A6:=mG hx;have b5:aa (fun b=>b≠w5.heap.size) wb wr:=H6.2.1.all.trans R;have j4:aa All wb wr:=dV (b5.mono fun b Y=>by show b≠_;omega);have l7:aa All wf wr:=c8.2.2.2.2.2.2.2.2.trans j4;have r7:aa All w wr:=HR.2.2.2.2.1.trans l7;obtain⟨xb,xo,G3,rfl,G4,F3,h9,xa,xf,rfl,A7,A8,E4⟩:=aZ (c8.2.2.2.2.2.1 wr j4) hx;have A9:=ah.la A7;have B0:=ah.la A8;obtain⟨E5,E6,rfl,_⟩:=A7;obtain⟨E7,E8,rfl,_⟩:=A8;have z0:=h9 0 _ rfl;rw[dj] at z0;have z1:=h9 1 _ rfl;have z2:=h9 2 _ rfl;have z3:=h9 3 _ rfl;have z4:=h9 4 _ rfl;have z5:=h9 5 _ rfl;have z6:=h9 6 _ rfl;have z7:=h9 7 _ rfl;have z8:=h9 8 _ rfl;obtain⟨W7,l8⟩:=eQ (wr.alloc (.cells #[.int .u8 x.kind,.int .u8 x.op,.int .i64 x.dst,.int .i64 x.ref,.int .i64 x.Ni,.slice E5 x.args.length E6,.slice E7 x.Nh.length E8,.int .i64 x.num,.int .i64 x.Nj] 40));have j5:=aC1 l8;have b7:=aA0 l8;have r8:=aD1 l8;have k1:=(((HP.1.kept HO.1 (by show _≠_;omega)).kept HR.1 (by show _≠_;omega)).kept l7 trivial).kept j5 trivial;have o3:=(((HP.2.1.kept HO.1 (by show _≠_;omega)).kept HR.1 (by show _≠_;omega)).kept l7 trivial).kept j5 trivial;have p0:=k1.cl 0;have p1:=k1.cl 1;have p2:=k1.cl 2;have p3:=k1.cl 3;have p4:=k1.cl 4;have d0:=o3.cl 0;have d1:=o3.cl 1;have d2:=o3.cl 2;have e0:=b7.cl 0;have e1:=b7.cl 1;have e2:=b7.cl 2;have e3:=b7.cl 3;have e4:=b7.cl 4;have e5:=b7.cl 5;have e6:=b7.cl 6;have e7:=b7.cl 7;have e8:=b7.cl 8;have B1:=AR S _ p (.slice A1 c.Nd.length c1) (.slice (some ⟨bb,o,none⟩) c.Nf.length c2) c.main _ _ x W7 (HP.2.2.1 W7 (r7.trans j5)) (A9 W7 j5) (B0 W7 j5) E4 (c8.2.2.2.2.2.2.1 x A6) HZ.1;have c6:=J7 R I J a1 hx l7 r7;have H7:=J4 l8 j5 B1 r8;clear R I J a1 b5 j4 l7 r7 h9 A9 B0 l8 j5 b7 r8 k1 o3 B1 hx A6;go_upto_region 29 with fail;rw[←H7.1];go_wp2_with fail;refine H7.2.2.1.mono ?_;rintro e w8 ⟨u,B2,rfl,p6,B3,dd,rr,tt,ia,r9,ik,ja,jn,jk,rfl,hI⟩;have B4:=oH p6;clear p6;have E9:=B3.size;rw[H7.2.2.2] at E9;obtain⟨o4,i7⟩:=eQ (w8.alloc (.cells #[.int .u8 x.kind,.int .u8 x.op,.string dd,.string rr,.string tt,.slice ia r9 ik,.slice ja jn jk,.int .i64 x.num,.int .i64 x.Nj] 185));have l9:=aC1 i7;have B5:=aA0 i7;have m9:=aD1 i7;have n0:aa All wr o4:=(H7.2.1.trans B3).trans l9;have b4:=J5 i7 l9 B5 m9 n0;clear p0 p1 p2 p3 p4 d0 d1 d2 e0 e1 e2 e3 e4 e5 e6 e7 e8 z0 z1 z2 z3 z4 z5 z6 z7 z8;clear i7 l9 B5 m9 n0;go_upto_region 30 with fail;rw[←b4.1];by_cases h4:dx p x;·(
 have tb:B2=true:=by rw[B4.out];exact av h4
 have HI:=J2 h4 (Jp (hI h4));clear hI h4;subst tb;have y1:=(c6.2.1.kept b4.2.2.2.2 trivial).cl 1;have g0:=b4.2.2.1.cl 0;have g1:=b4.2.2.1.cl 1;have g2:=b4.2.2.1.cl 2;have g3:=b4.2.2.1.cl 3;have g4:=b4.2.2.1.cl 4;have g5:=b4.2.2.1.cl 5;have g6:=b4.2.2.1.cl 6;have g7:=b4.2.2.1.cl 7;have g8:=b4.2.2.1.cl 8;obtain⟨s0,i1⟩:=eQ (o4.alloc (.cells #[.int .u8 x.kind,.int .u8 x.op,.string dd,.string rr,.string tt,.slice ia r9 ik,.slice ja jn jk,.int .i64 x.num,.int .i64 x.Nj] 185));have j7:aa All wr s0:=by rw[i1];exact b4.2.2.2.2.alloc _
 have p7:aa All w8 s0:=by rw[i1];exact b4.2.1.alloc _
 have B6:=aA0 i1;have F4:=aD1 i1;have m9:=eE b4.2.2.2.1;have F0:=eE b4.2.2.2.1.symm;have j8:EI W6.heap.size s0 (.slice E3 i ip) ((l.map (jC p c.main)).take i):=c6.2.2.1.keep nM j7 fun _ _ _=>trivial;have p8:=c6.2.1.kept j7 trivial;have k2:=J6 i1 j7 B6 p8 j8 (nM.keep p7.all HI.2);clear i1 j7 B6 p8 j8 p7;have r8:=eE H7.2.2.2;have F5:=eE H7.2.2.2.symm;have r5:=eE H6.2.2.2;have F6:=eE H6.2.2.2.symm;go_wp2_with (
  at_builtin;go_loud (
  rw[←k2.1];refine bN (E:=zH) _ nM rfl (.tmp 123) (.tmp 125) 169 rfl iI _ 120 underlying169 II.1 II.2.1 II.2.2.1 II.2.2.2 rfl (by decide) _ _ rfl k2.2.2.2.2.1 o4.heap.size 0 1 rfl [.int .u8 x.kind,.int .u8 x.op,.string dd,.string rr,.string tt,.slice ia r9 ik,.slice ja jn jk,.int .i64 x.num,.int .i64 x.Nj] (jC p c.main x) rfl ?_ ?_ (by rw[l6];omega) (by omega) ?_ (fun b=>W7.heap.size≤b∧b<w8.heap.size) ?_ ?_ ?_;·intro j u hu;rw[cN,k2.2.2.1.cell,List.getElem?_toArray];exact hu
  ·intro u hu;simp only[fX,List.not_mem_nil,or_false] at hu;rcases hu with rfl|rfl|rfl|rfl|rfl|rfl|rfl|rfl|rfl<;>rfl
  ·omega
  ·intro b Y;have B7:W7.heap.size≤b∧b<w8.heap.size:=Y;obtain⟨_,n4⟩:=c6.2.2.1.own;exact⟨by omega,by omega,fun e=>by have:=(aD n4 e).2;omega⟩
  ·exact k2.2.2.2.2.2
  intro D2 j0 w4 b8 b2 c5;have c7:=k2.2.2.2.1.grown b2 (fun e=>by have:=c5 _ e.symm;omega);have u1:=c7.cl 1;have v1:=c7.free 1;have H4:=J4 c7 b8 b2 c5;clear c7 b8 b2 c5))
 go_roundg (l.length-(i+1))
 ·refine⟨i+1,.slice D2 (i+1) j0,by omega,rfl,by go_num,((c6.1.trans k2.2.1.all).grown H4.2.2.1 fun b Y=>.inr (H4.2.2.2 b Y)).setCell (.inl fun h=>h rfl) _,by simpa using H4.1.set 1 (.slice D2 (i+1) j0),?_,fun i' y hi hy=>?_⟩
  ·have e:(l.map (jC p c.main)).take (i+1)=(l.map (jC p c.main)).take i++[jC p c.main x]:=by rw[cU,cL,c6.2.2.2.2.1];rfl
   rw[e];have h3:=H4.2.1;rw[l6] at h3;exact h3.keep nM ((aa.refl (fun b=>b≠w5.heap.size) _).setCell (.inl fun h=>h rfl) _) fun b Y k8=>by show b≠_;omega
  by_cases e:i'=i;·subst e;rw[c6.2.2.2.2.1] at hy;injection hy with hy;subst hy;exact HI.1
  exact c6.2.2.2.1 i' y (by omega) hy
 omega)
 have tb:B2=false:=by rw[B4.out];exact au h4
 have HI:=oH h4;clear hI h4;subst tb;have o0:=((HR.2.1.kept c6.2.2.2.2.2.1 trivial).kept b4.2.2.2.2 trivial).cell 0;have o1:=((HR.2.1.kept c6.2.2.2.2.2.1 trivial).kept b4.2.2.2.2 trivial).cell 1;have a6:=(((HW.2.2.2.2.kept HO.1 (by show _≠_;omega)).kept HR.1 (by show _≠_;omega)).kept c6.2.2.2.2.2.1 trivial).kept b4.2.2.2.2 trivial;have r0:=a6.cell 0;have r1:=a6.cell 1;have f0:=a6.free 0;have f1:=a6.free 1;have b0:=((((c6.2.2.2.2.2.2.trans b4.2.2.2.2).all:aa (fun b=>b<w.heap.size) w o4)).setCell (p:=⟨w.heap.size+1+1,0,none⟩) (.inl (by show¬(w.heap.size+1+1<w.heap.size);omega)) (.slice C c.Nd.length cp)).setCell (p:=⟨w.heap.size+1+1,1,none⟩) (.inl (by show¬(w.heap.size+1+1<w.heap.size);omega)) (.slice D k dp);have a7:=(a6.set 0 (.slice C c.Nd.length cp)).set 1 (.slice D k dp);have g0:=a7.cell 0;have g1:=a7.cell 1;simp only[ga,gc] at o0 o1 r0 r1 g0 g1;have HK:=oH b0;clear b0 a7 a6;go_wp2_with fail;refine bodyPost_ret (v:=.tuple #[.agg #[.slice C c.Nd.length cp,.slice D k dp],.bool false]) (by simp[results,Tryz.f53,go_sem,g0,g1]) rfl ⟨_,_,_,_,_,_,false,rfl,(au fun h=>?_).symm,dV HK.out,fun h=>?_⟩;·exact(HI.out ((h.2 b (mG HR.2.2.2.2.2)).2.2 l (mG c8.2.2.2.2.1) x (mG c6.2.2.2.2.1))).elim
 exact(HI.out ((h.2 b (mG HR.2.2.2.2.2)).2.2 l (mG c8.2.2.2.2.1) x (mG c6.2.2.2.2.1))).elim)
 obtain rfl:i=l.length:=by omega
 rw[oF (by rw[ce];omega)] at J;have n5:=J.read (bw:=120) nM (by rw[ce];omega);have b5:aa (fun b=>b≠w5.heap.size) wb wr:=H6.2.1.all.trans R;have h5:∀x∈l,dx p x:=fun x hx=>by obtain⟨i,hi⟩:=List.getElem?_of_mem hx;exact a1 i x (lS.1 hi).1 hi
 have o1:=(c8.2.1.kept b5 (by show _≠_;omega)).cl 2;have y0:=I.cl 0;have y1:=I.cl 1;have y2:=I.cl 2;obtain⟨W9,h6⟩:=eQ (wr.alloc (.cells #[.string (aL 98 (j:Int)),.slice E3 l.length ip,.int .i64 0] 171));have c9:=aC1 h6;have b9:=aA0 h6;have F1:=aD1 h6;have h7:xB wp.heap.size W9 (.slice E2 j bp) ((b.Ng.mapIdx (eh p c.main)).take j):=c8.2.2.1.keep lK (b5.trans c9.all) fun b Y k8=>by show b≠_;omega
 have B8:=(c8.2.1.kept b5 (by show _≠_;omega)).kept c9 trivial;have B9:qh (fun b=>w5.heap.size+1≤b∧b<wr.heap.size) W9 [.string (aL 98 (j:Int)),.slice E3 l.length ip,.int .i64 0] (eh p c.main j l):=Fa (it.keep c9.all (it.wide (fun b (Y:W6.heap.size≤b∧b<wr.heap.size)=>by have:=H6.2.2.2;omega) n5));have H9:=J8 h6 c9 b9 B8 h7 B9 b5 h5;clear h6 c9 b9 B8 h7 B9 b5 h5 a1 J n5 R I;go_wp2_with (
  at_builtin;go_loud (
  rw[←H9.1];refine bN (E:=qh) _ lK rfl (.tmp 130) (.tmp 132) 146 rfl iB _ 48 underlying146 IB.1 IB.2.1 IB.2.2.1 IB.2.2.2 rfl (by decide) _ _ rfl H9.2.2.2.2.1 wr.heap.size 0 1 rfl [.string (aL 98 (j:Int)),.slice E3 l.length ip,.int .i64 0] (eh p c.main j l) rfl ?_ ?_ (by rw[l4];omega) (by omega) ?_ (fun b=>w5.heap.size+1≤b∧b<wr.heap.size) ?_ ?_ ?_;·intro j u hu;rw[cN,H9.2.2.1.cell,List.getElem?_toArray];exact hu
  ·intro u hu;simp only[fX,List.not_mem_nil,or_false] at hu;rcases hu with rfl|rfl|rfl<;>rfl
  ·omega
  ·intro b Y;have B7:w5.heap.size+1≤b∧b<wr.heap.size:=Y;obtain⟨_,n4⟩:=c8.2.2.1.own;exact⟨by omega,by omega,fun e=>by have:=(aD n4 e).2;omega⟩
  ·exact H9.2.2.2.2.2.1
  intro D2 j0 w4 b8 b2 c5;have c7:=H9.2.2.2.1.grown b2 (fun e=>by have:=c5 _ e.symm;omega);have u1:=c7.cl 2;have v1:=c7.free 2;have H4:=J4 c7 b8 b2 c5;clear c7 b8 b2 c5))
 go_roundg (b.Ng.length-(j+1))
 ·refine⟨j+1,.slice D2 (j+1) j0,by omega,rfl,by go_num,yA ((((c8.1.mono fun b (Y:b≠w2.heap.size∧b<wp.heap.size)=>Y.1).trans ((H9.2.2.2.2.2.2.1.trans H9.2.1.all).mono fun b (Y:b≠w2.heap.size∧b<wp.heap.size)=>by show b≠_;omega)).grown H4.2.2.1 fun b Y=>.inr (by have:=H4.2.2.2 b Y;omega)).setCell (.inl fun h=>h.1 rfl) _),by simpa using H4.1.set 2 (.slice D2 (j+1) j0),?_,fun i x hi hx=>?_⟩
  ·rw[tO c8.2.2.2.2.1]
   have h3:=H4.2.1;rw[l4] at h3;exact h3.keep lK ((aa.refl (fun b=>b≠w2.heap.size) _).setCell (.inl fun h=>h rfl) _) fun b Y k8=>by show b≠_;omega
  by_cases e:i=j;·subst e;rw[c8.2.2.2.2.1] at hx;injection hx with hx;subst hx;exact H9.2.2.2.2.2.2.2
  exact c8.2.2.2.1 i x (by omega) hx
 omega)
 obtain rfl:j=b.Ng.length:=by omega
 rw[oF (by rw[List.length_mapIdx];omega)] at J;have n5:=J.read (bw:=48) lK (by rw[List.length_mapIdx];omega);have b5:aa (fun b=>b≠w2.heap.size) wf wr:=(H3.2.1.all.trans HX.1).trans (o2.1.trans R);have h5:lX p b:=⟨HB.1,HB.2.1,fun l hl=>by obtain⟨i,hi⟩:=List.getElem?_of_mem hl;exact a1 i l (lS.1 hi).1 hi⟩;have o1:=(HR.2.1.kept b5 (by show _≠_;omega)).cl 1;have y0:=I.cl 0;have y1:=I.cl 1;have y2:=I.cl 2;have y3:=I.cl 3;obtain⟨W9,h6⟩:=eQ (wr.alloc (.cells #[.string FN,.slice E1 pn ep,.slice E2 b.Ng.length bp,.int .i64 0] 148));have c9:=aC1 h6;have b9:=aA0 h6;have F1:=aD1 h6;have h7:BB wo.heap.size W9 (.slice D k dp) ((c.Nf.mapIdx (bU p c.main)).take k):=HR.2.2.1.keep nj (b5.trans c9.all) fun b Y k8=>by show b≠_;omega
 have C0:=(HR.2.1.kept b5 (by show _≠_;omega)).kept c9 trivial;have C1:uA (fun b=>w2.heap.size+1≤b∧b<wr.heap.size) W9 [.string FN,.slice E1 pn ep,.slice E2 b.Ng.length bp,.int .i64 0] (bU p c.main k b):=by refine Iu l0 (by rw[HB.2.2];exact ax.keep c9.all (ax.keep (R.mono fun b (Y:w2.heap.size+1≤b∧b<wr.heap.size)=>by show b≠_;omega) (ax.wide (fun b (Y:wc.heap.size≤b∧b<wp.heap.size)=>by omega) o2.2.2))) (eH.keep c9.all ?_);exact eH.wide (fun b (Y:wp.heap.size≤b∧b<wr.heap.size)=>by omega) n5
 have H9:=J8 h6 c9 b9 C0 h7 C1 b5 h5;clear h6 c9 b9 C0 h7 C1 b5 h5 a1 J n5 R I;go_wp2_with (
  at_builtin;go_loud (
  rw[←H9.1];refine bN (E:=uA) _ nj rfl (.tmp 137) (.tmp 139) 79 rfl iF _ 72 underlying79 IF.1 IF.2.1 IF.2.2.1 IF.2.2.2 rfl (by decide) _ _ rfl H9.2.2.2.2.1 wr.heap.size 0 1 rfl [.string FN,.slice E1 pn ep,.slice E2 b.Ng.length bp,.int .i64 0] (bU p c.main k b) rfl ?_ ?_ (by rw[j1];omega) (by omega) ?_ (fun b=>w2.heap.size+1≤b∧b<wr.heap.size) ?_ ?_ ?_;·intro j u hu;rw[cN,H9.2.2.1.cell,List.getElem?_toArray];exact hu
  ·intro u hu;simp only[fX,List.not_mem_nil,or_false] at hu;rcases hu with rfl|rfl|rfl|rfl<;>rfl
  ·omega
  ·intro b Y;have B7:w2.heap.size+1≤b∧b<wr.heap.size:=Y;obtain⟨_,n4⟩:=HR.2.2.1.own;exact⟨by omega,by omega,fun e=>by have:=(aD n4 e).2;omega⟩
  ·exact H9.2.2.2.2.2.1
  intro D2 j0 w4 b8 b2 c5;have c7:=H9.2.2.2.1.grown b2 (fun e=>by have:=c5 _ e.symm;omega);have u1:=c7.cl 1;have v1:=c7.free 1;have H4:=J4 c7 b8 b2 c5;clear c7 b8 b2 c5))
 go_roundg (c.Nf.length-(k+1))
 ·refine⟨k+1,.slice D2 (k+1) j0,by omega,rfl,by go_num,yA ((((HR.1.mono fun b (Y:b≠w.heap.size+1+1+1∧b<wo.heap.size)=>Y.1).trans ((H9.2.2.2.2.2.2.1.trans H9.2.1.all).mono fun b (Y:b≠w.heap.size+1+1+1∧b<wo.heap.size)=>by show b≠_;omega)).grown H4.2.2.1 fun b Y=>.inr (by have:=H4.2.2.2 b Y;omega)).setCell (.inl fun h=>h.1 rfl) _),by simpa using H4.1.set 1 (.slice D2 (k+1) j0),?_,fun i x hi hx=>?_⟩
  ·rw[tO HR.2.2.2.2.2]
   have h3:=H4.2.1;rw[j1] at h3;exact h3.keep nj ((aa.refl (fun b=>b≠w.heap.size+1+1+1) _).setCell (.inl fun h=>h rfl) _) fun b Y k8=>by show b≠_;omega
  by_cases e:i=k;·subst e;rw[HR.2.2.2.2.2] at hx;injection hx with hx;subst hx;exact H9.2.2.2.2.2.2.2
  exact HR.2.2.2.1 i x (by omega) hx
 omega)
 by_cases k4:b.params<0
 ·have t1:decide (b.params<0)=true:=by simp;omega
  have o0:=((HR.2.1.kept H3.2.1 trivial).kept HX.1 (by show _≠_;omega)).cell 0;have o1:=((HR.2.1.kept H3.2.1 trivial).kept HX.1 (by show _≠_;omega)).cell 1;have a6:=(((HW.2.2.2.2.kept HO.1 (by show _≠_;omega)).kept HR.1 (by show _≠_;omega)).kept H3.2.1 trivial).kept HX.1 (by show _≠_;omega);have r0:=a6.cell 0;have r1:=a6.cell 1;have f0:=a6.free 0;have f1:=a6.free 1;have b0:=((((HR.2.2.2.2.1.all.trans H3.2.1.all).trans (HX.1.mono fun b (Y:b<w.heap.size)=>by show b≠_;omega):aa (fun b=>b<w.heap.size) w wc)).setCell (p:=⟨w.heap.size+1+1,0,none⟩) (.inl (by show¬(w.heap.size+1+1<w.heap.size);omega)) (.slice C c.Nd.length cp)).setCell (p:=⟨w.heap.size+1+1,1,none⟩) (.inl (by show¬(w.heap.size+1+1<w.heap.size);omega)) (.slice D k dp);have a7:=(a6.set 0 (.slice C c.Nd.length cp)).set 1 (.slice D k dp);have g0:=a7.cell 0;have g1:=a7.cell 1;simp only[ga,gc] at o0 o1 r0 r1 g0 g1;have HK:=oH b0;clear b0 a7 a6;go_wp2_with fail;refine bodyPost_ret (v:=.tuple #[.agg #[.slice C c.Nd.length cp,.slice D k dp],.bool false]) (by simp[results,Tryz.f53,go_sem,g0,g1]) rfl ⟨_,_,_,_,_,_,false,rfl,(au fun h=>?_).symm,dV HK.out,fun h=>?_⟩
  ·have:=(h.2 b (mG HR.2.2.2.2.2)).1
   have:=(h.2 b (mG HR.2.2.2.2.2)).2.1;omega
  have:=(h.2 b (mG HR.2.2.2.2.2)).1;have:=(h.2 b (mG HR.2.2.2.2.2)).2.1;omega
 have t1:decide (b.params<0)=false:=by simp;omega
 have t2:decide ((6:Int)<b.params)=true:=by simp;omega
 have o0:=((HR.2.1.kept H3.2.1 trivial).kept HX.1 (by show _≠_;omega)).cell 0;have o1:=((HR.2.1.kept H3.2.1 trivial).kept HX.1 (by show _≠_;omega)).cell 1;have a6:=(((HW.2.2.2.2.kept HO.1 (by show _≠_;omega)).kept HR.1 (by show _≠_;omega)).kept H3.2.1 trivial).kept HX.1 (by show _≠_;omega);have r0:=a6.cell 0;have r1:=a6.cell 1;have f0:=a6.free 0;have f1:=a6.free 1;have b0:=((((HR.2.2.2.2.1.all.trans H3.2.1.all).trans (HX.1.mono fun b (Y:b<w.heap.size)=>by show b≠_;omega):aa (fun b=>b<w.heap.size) w wc)).setCell (p:=⟨w.heap.size+1+1,0,none⟩) (.inl (by show¬(w.heap.size+1+1<w.heap.size);omega)) (.slice C c.Nd.length cp)).setCell (p:=⟨w.heap.size+1+1,1,none⟩) (.inl (by show¬(w.heap.size+1+1<w.heap.size);omega)) (.slice D k dp);have a7:=(a6.set 0 (.slice C c.Nd.length cp)).set 1 (.slice D k dp);have g0:=a7.cell 0;have g1:=a7.cell 1;simp only[ga,gc] at o0 o1 r0 r1 g0 g1;have HK:=oH b0;clear b0 a7 a6;go_wp2_with fail;refine bodyPost_ret (v:=.tuple #[.agg #[.slice C c.Nd.length cp,.slice D k dp],.bool false]) (by simp[results,Tryz.f53,go_sem,g0,g1]) rfl ⟨_,_,_,_,_,_,false,rfl,(au fun h=>?_).symm,dV HK.out,fun h=>?_⟩
 ·have:=(h.2 b (mG HR.2.2.2.2.2)).1
  have:=(h.2 b (mG HR.2.2.2.2.2)).2.1;omega
 have:=(h.2 b (mG HR.2.2.2.2.2)).1;have:=(h.2 b (mG HR.2.2.2.2.2)).2.1;omega)
 obtain rfl:k=c.Nf.length:=by omega
 rw[oF (by rw[List.length_mapIdx];omega)] at J;have e9:∀b∈c.Nf,lX p b:=fun a ha=>by obtain⟨i,hi⟩:=List.getElem?_of_mem ha;exact a1 i a (lS.1 hi).1 hi
 have hF:=J.read (bw:=72) nj (by rw[List.length_mapIdx];omega);have o0:=I.cell 0;have o1:=I.cell 1;have a6:=(HW.2.2.2.2.kept HO.1 (by show _≠_;omega)).kept R (by show _≠_;omega);have r0:=a6.cell 0;have r1:=a6.cell 1;have f0:=a6.free 0;have f1:=a6.free 1;have b0:=(((HO.1.trans R).mono fun b (Y:b≠w.heap.size+1+1+1∧b≠w.heap.size+1+1)=>Y.1).setCell (p:=⟨w.heap.size+1+1,0,none⟩) (.inl fun h=>h.2 rfl) (.slice C c.Nd.length cp)).setCell (p:=⟨w.heap.size+1+1,1,none⟩) (.inl fun h=>h.2 rfl) (.slice D c.Nf.length dp);have k9:=((aa.refl (fun b=>w.heap.size+4≤b) wr).setCell (p:=⟨w.heap.size+1+1,0,none⟩) (.inl (by show¬(w.heap.size+4≤w.heap.size+1+1);omega)) (.slice C c.Nd.length cp)).setCell (p:=⟨w.heap.size+1+1,1,none⟩) (.inl (by show¬(w.heap.size+4≤w.heap.size+1+1);omega)) (.slice D c.Nf.length dp);have a7:=(a6.set 0 (.slice C c.Nd.length cp)).set 1 (.slice D c.Nf.length dp);have g0:=a7.cell 0;have g1:=a7.cell 1;simp only[ga,gc] at o0 o1 r0 r1 g0 g1;have HX:=J5 b0 k9 R hF e9;clear b0 k9 R hF e9 a1 J a7 I a6 h8 d1;go_wp2_with fail;refine bodyPost_ret (v:=.tuple #[.agg #[.slice C c.Nd.length cp,.slice D c.Nf.length dp],.bool true]) (by simp[results,Tryz.f53,go_sem,g0,g1]) rfl ⟨_,_,_,_,_,_,true,rfl,(av (P:=pi p c) ⟨HO.2.2.2.1,HX.2.2.2.2⟩).symm,dV (HW.2.2.1.all.trans (HX.1.mono fun b Y=>by constructor<;>(show b≠_)<;>omega)),fun _=>⟨_,_,rfl,?_,?_⟩⟩;·exact lJ.wide (fun b Y=>by have:w.heap.size+4≤b∧b<wo.heap.size:=Y;have:=HX.2.1.size;have:=HX.2.2.1.size;omega) (lJ.keep ((HX.2.2.1.mono fun b (Y:w.heap.size+4≤b∧b<wo.heap.size)=>by show b≠_;omega).trans (HX.2.1.mono fun b Y=>Y.1)) HO.2.2.1)
 exact iX.wide (fun b Y=>by have:wo.heap.size≤b∧b<wr.heap.size:=Y;have:=HX.2.1.size;have:=HX.2.2.1.size;omega) (iX.keep (HX.2.1.mono fun b (Y:wo.heap.size≤b∧b<wr.heap.size)=>by omega) HX.2.2.2.1)
theorem lP {α β:Type}{g:α→β}{j lb:List α}(o:j.length=lb.length)(h:∀(i:Nat) x y,j[i]? =some x→lb[i]? =some y→g x=g y):j.map g=lb.map g:=by
 refine List.ext_getElem? fun i=>?_;rw[cL,cL];by_cases hi:i<j.length
 ·rw[lG hi,lG (show i<lb.length by omega)]
  exact congrArg some (h i _ _ (lG hi) (lG (by omega)))
 rw[jz (by omega),jz (by omega)]
theorem qC {α β:Type}{g:α→β}{j lb:List α}{i:Nat}{x y:α}(o:j[i]? =some x)(C:lb[i]? =some y)(h:g x≠g y):j.map g≠lb.map g:=by intro e;have:=congrArg (fun l=>l[i]?) e;simp only[cL,o,C,Option.map_some,Option.some.injEq] at this;exact h this
theorem sS {α β:Type}{g:α→β}{j lb:List α}(h:j.length≠lb.length):j.map g≠lb.map g:=fun e=>h (by have:=congrArg List.length e;simpa using this)
theorem oP (S T:Nat→Prop)(va vb:Value)(o lb:List Int)(w:World)(ha:aK S w va o)(hb:aK T w vb lb):
 Calls prog 65 #[va,vb] w fun e w'=>e=.returned (.bool (decide (o=lb)))∧aa All w w':=by
 have hA:=fun wn (hk:aa All w wn)=>(ah).keep hk.all ha;have hB:=fun wn (hk:aa All w wn)=>(ah).keep hk.all hb;obtain⟨A1,c1,rfl,l1,l2,l3,_⟩:=ha;obtain⟨A2,c2,rfl,m1,m2,m3,_⟩:=hb;unfold maxLen at l2 m2;have HV:=J2 hA hB;clear hA hB;by_cases J:o.length=lb.length;·(
 have t0:((o.length:Int) !=(lb.length:Int))=false:=by simp;omega
 go_enter func65,ntmps65;go_wp2_with fail;go_loopg [13] o.length (fun g s wr=>∃j:Nat,j≤o.length∧g=o.length-j∧s=.int .i64 j∧aa All w wr∧∀(i:Nat) x y,i<j→o[i]? =some x→lb[i]? =some y→x=y);·exact⟨0,by omega,by omega,rfl,kR,fun i a b h=>by omega⟩
 obtain⟨j,hj,rfl,rfl,I,C⟩:=hrel;by_cases a8:j<o.length;·(
 obtain⟨x,hx⟩:=eG a8;have a1:j<lb.length:=by omega
 obtain⟨y,hy⟩:=eG a1;obtain⟨xb,xo,xc,rfl,_,a6,rfl,_⟩:=bn (HV.1 wr I) hx;obtain⟨yb,yo,yc,rfl,_,a7,rfl,_⟩:=bn (HV.2 wr I) hy;have Y:=J4 I C hx hy;clear I C hx hy;by_cases he:x=y;·(
 subst he;go_wp2_with fail;refine R0 9 wr (fun _=>none) ?_;iterate 9 first|refine O3 (fun wn hk hp=>by(have q0:=hk.cell trivial a6;have q1:=hk.cell trivial a7;go_simp;with_reducible rfl)) ?_|refine O0 ?_
 refine aG fun wt R hF=>?_;have HT:=oH R;clear R hF;simp only[dK];go_wp2_with fail;go_roundg (o.length-(j+1))
 ·refine⟨j+1,by omega,rfl,by go_num,Y.1.trans HT.out,fun i a b hi ha hb=>?_⟩
  by_cases e:i=j;·subst e;rw[Y.2.2.1] at ha;rw[Y.2.2.2] at hb;cases ha;cases hb;rfl
  exact Y.2.1 i a b (by omega) ha hb
 omega)
 have te:(x !=y)=true:=by simpa using he
 have HE:=oH he;clear he;go_wp2_with fail;refine R0 9 wr (fun _=>none) ?_;iterate 9 first|refine O3 (fun wn hk hp=>by(have q0:=hk.cell trivial a6;have q1:=hk.cell trivial a7;go_simp;with_reducible rfl)) ?_|refine O0 ?_
 refine aG fun wt R hF=>?_;have HT:=oH R;clear R hF;simp only[dK];go_wp2_with fail;have HD:=oH (cI (p:=o=lb) fun e=>by have h1:=Y.2.2.1;rw[e,Y.2.2.2] at h1;injection h1 with h1;exact HE.out h1.symm);go_ret;exact⟨by rw[HD.out]<;>rfl,Y.1.trans HT.out⟩)
 obtain rfl:j=o.length:=by omega
 have Y:=J2 I C;clear I C;have HL:=oH J;have HD:=oH (bL (p:=o=lb) (by have:=lP (g:=id) HL.out (fun i x y hx hy=>Y.2 i x y (lS.1 hx).1 hx hy);rwa [List.map_id,List.map_id] at this));go_wp2_with fail;go_ret;exact⟨by rw[HD.out]<;>rfl,Y.1⟩)
 have t0:((o.length:Int) !=(lb.length:Int))=true:=by simp;omega
 have HL:=oH J;clear J;go_enter func65,ntmps65;have HD:=oH (cI (p:=o=lb) fun e=>HL.out (by rw[e]));go_wp2_with fail;go_ret;exact⟨by rw[HD.out]<;>rfl,kR⟩
theorem yh (S T:Nat→Prop)(va vb:Value)(I lb:List (Int×Int))(w:World)(ha:ev S w va I)(hb:ev T w vb lb):
 Calls prog 54 #[va,vb] w fun e w'=>e=.returned (.bool (decide (I=lb)))∧aa All w w':=by
 have hA:=fun wn (o:aa All w wn)=>(bu).keep o.all ha;have hB:=fun wn (o:aa All w wn)=>(bu).keep o.all hb;obtain⟨A1,c1,rfl,l1,l2,l3,_⟩:=ha;obtain⟨A2,c2,rfl,m1,m2,m3,_⟩:=hb;unfold maxLen at l2 m2;have HV:=J2 hA hB;clear hA hB;by_cases a1:I.length=lb.length;·(
 have t0:((I.length:Int) !=(lb.length:Int))=false:=by simp;omega
 go_enter func54,ntmps54;go_wp2_with fail;go_loopg [13] I.length (fun g s wr=>∃j:Nat,j≤I.length∧g=I.length-j∧s=.int .i64 j∧aa All w wr∧∀(i:Nat) x y,i<j→I[i]? =some x→lb[i]? =some y→x=y);·exact⟨0,by omega,by omega,rfl,kR,fun i a b h=>by omega⟩
 obtain⟨j,hj,rfl,rfl,R,J⟩:=hrel;by_cases b0:j<I.length;·(
 obtain⟨x,hx⟩:=eG b0;have a8:j<lb.length:=by omega
 obtain⟨y,hy⟩:=eG a8;obtain⟨xb,xo,b1,rfl,_,_,a6,rfl,_⟩:=aZ (HV.1 wr R) hx;obtain⟨yb,yo,b2,rfl,_,_,a7,rfl,_⟩:=aZ (HV.2 wr R) hy;have x0:=a6 0 _ rfl;have x1:=a6 1 _ rfl;have y0:=a7 0 _ rfl;have y1:=a7 1 _ rfl;rw[dj] at x0 y0;clear a6 a7;have Y:=J4 R J hx hy;clear R J hx hy;by_cases he:x=y;·(
 subst he;go_wp2_with fail;refine R0 9 wr (fun _=>none) ?_;iterate 9 first|refine O3 (fun wn o hp=>by(have q0:=o.cell trivial x0;have q1:=o.cell trivial x1;have q2:=o.cell trivial y0;have q3:=o.cell trivial y1;go_simp;with_reducible rfl)) ?_|refine O0 ?_
 refine aG fun wt C hF=>?_;have HT:=oH C;clear C hF;simp only[dK];go_wp2_with fail;go_roundg (I.length-(j+1))
 ·refine⟨j+1,by omega,rfl,by go_num,Y.1.trans HT.out,fun i a b hi ha hb=>?_⟩
  by_cases e:i=j;·subst e;rw[Y.2.2.1] at ha;rw[Y.2.2.2] at hb;cases ha;cases hb;rfl
  exact Y.2.1 i a b (by omega) ha hb
 omega)
 obtain⟨xa,xz⟩:=x;obtain⟨ya,yz⟩:=y;have HE:=oH he;by_cases h1:xa=ya
 ·subst h1;have te:xz≠yz:=fun h=>he (by rw[h]);have tf:(xz==yz)=false:=by simpa using te
  clear he;go_wp2_with fail;refine R0 9 wr (fun _=>none) ?_;iterate 9 first|refine O3 (fun wn o hp=>by(have q0:=o.cell trivial x0;have q1:=o.cell trivial x1;have q2:=o.cell trivial y0;have q3:=o.cell trivial y1;go_simp;with_reducible rfl)) ?_|refine O0 ?_
  refine aG fun wt C hF=>?_;have HT:=oH C;clear C hF;simp only[dK];go_wp2_with fail;have HD:=oH (cI (p:=I=lb) fun e=>by have h1:=Y.2.2.1;rw[e,Y.2.2.2] at h1;injection h1 with h1;exact HE.out h1.symm);go_ret;exact⟨by rw[HD.out]<;>rfl,Y.1.trans HT.out⟩
 have tf:(xa==ya)=false:=by simpa using h1
 clear he;go_wp2_with fail;refine R0 9 wr (fun _=>none) ?_;iterate 9 first|refine O3 (fun wn o hp=>by(have q0:=o.cell trivial x0;have q1:=o.cell trivial x1;have q2:=o.cell trivial y0;have q3:=o.cell trivial y1;go_simp;with_reducible rfl)) ?_|refine O0 ?_
 refine aG fun wt C hF=>?_;have HT:=oH C;clear C hF;simp only[dK];go_wp2_with fail;have HD:=oH (cI (p:=I=lb) fun e=>by have h1:=Y.2.2.1;rw[e,Y.2.2.2] at h1;injection h1 with h1;exact HE.out h1.symm);go_ret;exact⟨by rw[HD.out]<;>rfl,Y.1.trans HT.out⟩)
 obtain rfl:j=I.length:=by omega
 have Y:=J2 R J;clear R J;have HL:=oH a1;have HD:=oH (bL (p:=I=lb) (by have:=lP (g:=id) HL.out (fun i x y hx hy=>Y.2 i x y (lS.1 hx).1 hx hy);rwa [List.map_id,List.map_id] at this));go_wp2_with fail;go_ret;exact⟨by rw[HD.out]<;>rfl,Y.1⟩)
 have t0:((I.length:Int) !=(lb.length:Int))=true:=by simp;omega
 have HL:=oH a1;clear a1;go_enter func54,ntmps54;have HD:=oH (cI (p:=I=lb) fun e=>HL.out (by rw[e]));go_wp2_with fail;go_ret;exact⟨by rw[HD.out]<;>rfl,kR⟩
theorem Bf {x y:bz}:jD x y↔x.kind=y.kind∧x.op=y.op∧x.dst=y.dst∧x.ref=y.ref∧x.Ni=y.Ni∧x.num=y.num∧x.args=y.args∧x.Nh=y.Nh:=by
 obtain⟨k,o,d,r,a,l,f,n,p⟩:=x;obtain⟨k',o',d',r',a',l',f',n',p'⟩:=y;simp only[jD,iE,bz.mk.injEq,and_true];constructor;·rintro⟨j,C,I,J,R,Y,h7,h8⟩;exact⟨j,C,I,J,R,h8,Y,h7⟩
 rintro⟨j,C,I,J,R,Y,h7,h8⟩;exact⟨j,C,I,J,R,h7,h8,Y⟩
theorem Be (S T:Nat→Prop)(x y:bz)(xa xf ya yf:Value)(w:World)(h1:aK S w xa x.args)(h2:aK S w xf x.Nh)(h3:aK T w ya y.args)(h4:aK T w yf y.Nh):
 Calls prog 60 #[.agg #[.int .u8 x.kind,.int .u8 x.op,.int .i64 x.dst,.int .i64 x.ref,.int .i64 x.Ni,xa,xf,.int .i64 x.num,.int .i64 x.Nj],.agg #[.int .u8 y.kind,.int .u8 y.op,.int .i64 y.dst,.int .i64 y.ref,.int .i64 y.Ni,ya,yf,.int .i64 y.num,.int .i64 y.Nj]] w fun e w'=>e=.returned (.bool (pB (jD x y)))∧aa All w w':=by
 have hA:=fun wn (hk:aa All w wn)=>oP S T xa ya x.args y.args wn (ah.keep hk.all h1) (ah.keep hk.all h3);have hF:=fun wn (hk:aa All w wn)=>oP S T xf yf x.Nh y.Nh wn (ah.keep hk.all h2) (ah.keep hk.all h4);obtain⟨a7,a8,rfl,_⟩:=h1;obtain⟨b0,b1,rfl,_⟩:=h2;obtain⟨b2,b3,rfl,_⟩:=h3;obtain⟨b4,b5,rfl,_⟩:=h4;obtain⟨W1,C⟩:=eQ ((w.alloc (.cells #[.int .u8 x.kind,.int .u8 x.op,.int .i64 x.dst,.int .i64 x.ref,.int .i64 x.Ni,.slice a7 x.args.length a8,.slice b0 x.Nh.length b1,.int .i64 x.num,.int .i64 x.Nj] 40)).alloc (.cells #[.int .u8 y.kind,.int .u8 y.op,.int .i64 y.dst,.int .i64 y.ref,.int .i64 y.Ni,.slice b2 y.args.length b3,.slice b4 y.Nh.length b5,.int .i64 y.num,.int .i64 y.Nj] 40));have a1:=aC2 C;have I:=aA1 C;have J:=aB0 C aE1;have e0:=I.cl 0;have f0:=J.cl 0;have e1:=I.cl 1;have f1:=J.cl 1;have e2:=I.cl 2;have f2:=J.cl 2;have e3:=I.cl 3;have f3:=J.cl 3;have e4:=I.cl 4;have f4:=J.cl 4;have e5:=I.cl 5;have f5:=J.cl 5;have e7:=I.cl 7;have f7:=J.cl 7;have j:=J6 C a1 I J hA hF;have R:=oH (Bf (x:=x) (y:=y));clear C a1 I J hA hF;go_enter func60,ntmps60;go_upto_region 1 with fail;rw[←j.1];by_cases d0:x.kind=y.kind
 case neg=>(
 have t0:((x.kind:Int)==(y.kind:Int))=false:=by rw[bE];omega
 have o:=oH (au (P:=jD x y) fun h=>d0 (R.1 h).1);clear d0;go_wp2_with fail;go_ret;exact⟨by rw[o.out]<;>rfl,j.2.1⟩)
 have t0:((x.kind:Int)==(y.kind:Int))=true:=by rw[cy];omega
 have D0:=oH d0;clear d0;by_cases d1:x.op=y.op
 case neg=>(
 have t1:((x.op:Int)==(y.op:Int))=false:=by rw[bE];omega
 have o:=oH (au (P:=jD x y) fun h=>d1 (R.1 h).2.1);clear d1;go_wp2_with fail;go_ret;exact⟨by rw[o.out]<;>rfl,j.2.1⟩)
 have t1:((x.op:Int)==(y.op:Int))=true:=by rw[cy];omega
 have D1:=oH d1;clear d1;by_cases d2:x.dst=y.dst
 case neg=>(
 have t2:((x.dst:Int)==(y.dst:Int))=false:=by rw[bE];omega
 have o:=oH (au (P:=jD x y) fun h=>d2 (R.1 h).2.2.1);clear d2;go_wp2_with fail;go_ret;exact⟨by rw[o.out]<;>rfl,j.2.1⟩)
 have t2:((x.dst:Int)==(y.dst:Int))=true:=by rw[cy];omega
 have D2:=oH d2;clear d2;by_cases d3:x.ref=y.ref
 case neg=>(
 have t3:((x.ref:Int)==(y.ref:Int))=false:=by rw[bE];omega
 have o:=oH (au (P:=jD x y) fun h=>d3 (R.1 h).2.2.2.1);clear d3;go_wp2_with fail;go_ret;exact⟨by rw[o.out]<;>rfl,j.2.1⟩)
 have t3:((x.ref:Int)==(y.ref:Int))=true:=by rw[cy];omega
 have D3:=oH d3;clear d3;by_cases d4:x.Ni=y.Ni
 case neg=>(
 have t4:((x.Ni:Int)==(y.Ni:Int))=false:=by rw[bE];omega
 have o:=oH (au (P:=jD x y) fun h=>d4 (R.1 h).2.2.2.2.1);clear d4;go_wp2_with fail;go_ret;exact⟨by rw[o.out]<;>rfl,j.2.1⟩)
 have t4:((x.Ni:Int)==(y.Ni:Int))=true:=by rw[cy];omega
 have D4:=oH d4;clear d4;by_cases d5:x.num=y.num
 case neg=>(
 have t5:((x.num:Int)==(y.num:Int))=false:=by rw[bE];omega
 have o:=oH (au (P:=jD x y) fun h=>d5 (R.1 h).2.2.2.2.2.1);clear d5;go_wp2_with fail;go_ret;exact⟨by rw[o.out]<;>rfl,j.2.1⟩)
 have t5:((x.num:Int)==(y.num:Int))=true:=by rw[cy];omega
 have D5:=oH d5;clear d5;go_wp2_with fail;refine(j.2.2.2.2.1 _ j.2.1).mono ?_;rintro e w2 ⟨rfl,Y⟩;have e6:=(j.2.2.1.kept Y trivial).cl 6;have f6:=(j.2.2.2.1.kept Y trivial).cl 6;have H2:=oH Y;clear Y;by_cases da:x.args=y.args
 case neg=>(rw[cI da];have o:=oH (au (P:=jD x y) fun h=>da (R.1 h).2.2.2.2.2.2.1);clear da;go_wp2_with fail;go_ret;exact⟨by rw[o.out]<;>rfl,j.2.1.trans H2.out⟩)
 rw[bL da];have HA:=oH da;clear da;go_wp2_with fail;refine(j.2.2.2.2.2 _ (j.2.1.trans H2.out)).mono ?_;rintro e w3 ⟨rfl,a6⟩;have H3:=oH a6;clear a6;have o:=oH (show decide (x.Nh=y.Nh)=pB (jD x y) by
  by_cases h:x.Nh=y.Nh;·rw[bL h,av (R.2 ⟨D0.out,D1.out,D2.out,D3.out,D4.out,D5.out,HA.out,h⟩)]
  rw[cI h,au fun h'=>h (R.1 h').2.2.2.2.2.2.2])
 rw[o.out];go_wp2_with fail;go_ret;exact⟨rfl,(j.2.1.trans H2.out).trans H3.out⟩
theorem CS (S T:Nat→Prop)(va vb:Value)(R lb:List (bz))(w:World)(ha:tZ S w va R)(hb:tZ T w vb lb):
 Calls prog 59 #[va,vb,.func (.func 60) #[] #[]] w fun e w'=>e=.returned (.bool (pB (R.map iE=lb.map iE)))∧aa All w w':=by
 have hA:=cT.la ha;have hB:=cT.la hb;obtain⟨A1,c1,rfl,l1,l2,l3,_⟩:=ha;obtain⟨A2,c2,rfl,m1,m2,m3,_⟩:=hb;unfold maxLen at l2 m2;have HV:=J2 hA hB;clear hA hB;by_cases J:R.length=lb.length;·(
 have t0:((R.length:Int) !=(lb.length:Int))=false:=by simp;omega
 have c3:=oH J;have c9:=eE J;have d7:=eE J.symm;clear J;go_enter func59,ntmps59;go_wp2_with fail;go_loopg [17] R.length (fun g s wr=>∃j:Nat,j≤R.length∧g=R.length-j∧s=.int .i64 j∧aa All w wr∧∀(i:Nat) x y,i<j→R[i]? =some x→lb[i]? =some y→iE x=iE y);·exact⟨0,by omega,by omega,rfl,kR,fun i a b h=>by omega⟩
 obtain⟨j,hj,rfl,rfl,a1,Y⟩:=hrel;by_cases c4:j<R.length;·(
 obtain⟨x,hx⟩:=eG c4;have b0:j<lb.length:=by omega
 obtain⟨y,hy⟩:=eG b0;obtain⟨xb,xo,d8,rfl,_,_,C,xa,xf,rfl,b1,b2,_⟩:=aZ (HV.1 wr a1) hx;obtain⟨yb,yo,d9,rfl,_,_,I,ya,yf,rfl,b3,b4,_⟩:=aZ (HV.2 wr a1) hy;have hS:=fun wn (hk:aa All wr wn)=>Be S T x y xa xf ya yf wn (ah.keep hk.all b1) (ah.keep hk.all b2) (ah.keep hk.all b3) (ah.keep hk.all b4);obtain⟨b5,b6,rfl,_⟩:=b1;obtain⟨b7,b8,rfl,_⟩:=b2;obtain⟨c5,c6,rfl,_⟩:=b3;obtain⟨c7,c8,rfl,_⟩:=b4;have x0:=C 0 _ rfl;have x1:=C 1 _ rfl;have x2:=C 2 _ rfl;have x3:=C 3 _ rfl;have x4:=C 4 _ rfl;have x5:=C 5 _ rfl;have x6:=C 6 _ rfl;have x7:=C 7 _ rfl;have x8:=C 8 _ rfl;have y0:=I 0 _ rfl;have y1:=I 1 _ rfl;have y2:=I 2 _ rfl;have y3:=I 3 _ rfl;have y4:=I 4 _ rfl;have y5:=I 5 _ rfl;have y6:=I 6 _ rfl;have y7:=I 7 _ rfl;have y8:=I 8 _ rfl;rw[dj] at x0 y0;obtain⟨Wa,a7⟩:=eQ (wr.alloc (.cells #[.int .u8 x.kind,.int .u8 x.op,.int .i64 x.dst,.int .i64 x.ref,.int .i64 x.Ni,.slice b5 x.args.length b6,.slice b7 x.Nh.length b8,.int .i64 x.num,.int .i64 x.Nj] 40));have o:=aC1 a7;have y0:=o.cell trivial y0;have y1:=o.cell trivial y1;have y2:=o.cell trivial y2;have y3:=o.cell trivial y3;have y4:=o.cell trivial y4;have y5:=o.cell trivial y5;have y6:=o.cell trivial y6;have y7:=o.cell trivial y7;have y8:=o.cell trivial y8;obtain⟨W2,a6⟩:=eQ (Wa.alloc (.cells #[.int .u8 y.kind,.int .u8 y.op,.int .i64 y.dst,.int .i64 y.ref,.int .i64 y.Ni,.slice c5 y.args.length c6,.slice c7 y.Nh.length c8,.int .i64 y.num,.int .i64 y.Nj] 40));have a8:aa All wr W2:=by rw[a6];exact o.alloc _
 have bX:al W2 wr.heap.size 40 #[.int .u8 x.kind,.int .u8 x.op,.int .i64 x.dst,.int .i64 x.ref,.int .i64 x.Ni,.slice b5 x.args.length b6,.slice b7 x.Nh.length b8,.int .i64 x.num,.int .i64 x.Nj]:=by rw[a6,a7];exact(al.new _ _ _).alloc _
 have bY:=aA0 a6;have e0:=bX.cl 0;have f0:=bY.cl 0;have e1:=bX.cl 1;have f1:=bY.cl 1;have e2:=bX.cl 2;have f2:=bY.cl 2;have e3:=bX.cl 3;have f3:=bY.cl 3;have e4:=bX.cl 4;have f4:=bY.cl 4;have e5:=bX.cl 5;have f5:=bY.cl 5;have e6:=bX.cl 6;have f6:=bY.cl 6;have e7:=bX.cl 7;have f7:=bY.cl 7;have e8:=bX.cl 8;have f8:=bY.cl 8;have HS:=oH (hS W2 a8);have HR:=J7 a1 Y hx hy a6 a8 a7;clear a1 Y hx hy a6 a8 bX bY hS C I a7 o;go_upto_region 6 with fail;rw[←HR.2.2.2.2.2.2];go_upto_region 7 with fail;rw[←HR.2.2.2.2.1];go_wp2_with fail;refine HS.out.mono ?_;rintro e w3 ⟨rfl,b9⟩;have c0:=oH b9;clear b9;by_cases he:jD x y
 ·rw[av he];have HE:=oH he;clear he;go_wp2_with fail;go_roundg (R.length-(j+1))
  ·refine⟨j+1,by omega,rfl,by go_num,(HR.1.trans HR.2.2.2.2.2.1).trans c0.out,fun i a b hi ha hb=>?_⟩
   by_cases e:i=j;·subst e;rw[HR.2.2.1] at ha;rw[HR.2.2.2.1] at hb;cases ha;cases hb;exact HE.out
   exact HR.2.1 i a b (by omega) ha hb
  omega
 rw[au he];have HD:=oH (au (P:=R.map iE=lb.map iE) (qC HR.2.2.1 HR.2.2.2.1 he));clear he;go_wp2_with fail;go_ret;exact⟨by rw[HD.out]<;>rfl,(HR.1.trans HR.2.2.2.2.2.1).trans c0.out⟩)
 obtain rfl:j=R.length:=by omega
 have HR:=J2 a1 Y;clear a1 Y;have HD:=oH (av (P:=R.map iE=lb.map iE) (lP c3.out (fun i x y hx hy=>HR.2 i x y (lS.1 hx).1 hx hy)));go_wp2_with fail;go_ret;exact⟨by rw[HD.out]<;>rfl,HR.1⟩)
 have t0:((R.length:Int) !=(lb.length:Int))=true:=by simp;omega
 have HD:=oH (au (P:=R.map iE=lb.map iE) (sS J));clear J;go_enter func59,ntmps59;go_wp2_with fail;go_ret;exact⟨by rw[HD.out]<;>rfl,kR⟩
theorem CT (S T:Nat→Prop)(o C:Value)(I lb:List bz)(w:World)(R:tZ S w o I)(Y:tZ T w C lb):
 Calls prog 58 #[o,C] w fun e w'=>e=.returned (.bool (pB (I.map iE=lb.map iE)))∧aa All w w':=by
 have H:=oH (CS S T o C I lb w R Y);clear R Y;go_enter func58,ntmps58;go_wp2_with fail;refine H.out.mono ?_;rintro e w3 ⟨rfl,j⟩;have J:=oH j;clear j;go_wp2_with fail;go_ret;exact⟨rfl,J.out⟩
theorem Ac (S T:Nat→Prop)(va vb:Value)(C lb:List (List bz))(w:World)(Y:bW S w va C)(hb:bW T w vb lb):
 Calls prog 57 #[va,vb,.func (.func 58) #[] #[]] w fun e w'=>e=.returned (.bool (pB (C.map (fun l=>l.map iE)=lb.map (fun l=>l.map iE))))∧aa All w w':=by
 have hA:=bg.la Y;have hB:=bg.la hb;obtain⟨A1,c1,rfl,l1,l2,l3,_⟩:=Y;obtain⟨A2,c2,rfl,m1,m2,m3,_⟩:=hb;unfold maxLen at l2 m2;have HV:=J2 hA hB;clear hA hB;by_cases o:C.length=lb.length;·(
 have t0:((C.length:Int) !=(lb.length:Int))=false:=by simp;omega
 have b1:=oH o;have b3:=eE o;have b4:=eE o.symm;clear o;go_enter func57,ntmps57;go_wp2_with fail;go_loopg [17] C.length (fun g s wr=>∃j:Nat,j≤C.length∧g=C.length-j∧s=.int .i64 j∧aa All w wr∧∀(i:Nat) x y,i<j→C[i]? =some x→lb[i]? =some y→(fun l=>l.map iE) x=(fun l=>l.map iE) y);·exact⟨0,by omega,by omega,rfl,kR,fun i a b h=>by omega⟩
 obtain⟨j,hj,rfl,rfl,J,I⟩:=hrel;by_cases b2:j<C.length;·(
 obtain⟨x,hx⟩:=eG b2;have a1:j<lb.length:=by omega
 obtain⟨y,hy⟩:=eG a1;obtain⟨xb,xo,xv,rfl,_,b5,a6⟩:=bn (HV.1 wr J) hx;obtain⟨yb,yo,yv,rfl,_,b6,a7⟩:=bn (HV.2 wr J) hy;have HS:=oH (CT S T xv yv x y wr a6 a7);obtain⟨x1,x2,rfl,_⟩:=a6;obtain⟨y1,y2,rfl,_⟩:=a7;have R:=J4 J I hx hy;clear J I hx hy;go_wp2_with fail;refine HS.out.mono ?_;rintro e w3 ⟨rfl,a8⟩;have b0:=oH a8;clear a8;by_cases he:x.map iE=y.map iE
 ·rw[av he];have HE:=oH he;clear he;go_wp2_with fail;go_roundg (C.length-(j+1))
  ·refine⟨j+1,by omega,rfl,by go_num,R.1.trans b0.out,fun i a b hi Y hb=>?_⟩
   by_cases e:i=j;·subst e;rw[R.2.2.1] at Y;rw[R.2.2.2] at hb;cases Y;cases hb;exact HE.out
   exact R.2.1 i a b (by omega) Y hb
  omega
 rw[au he];have HD:=oH (au (P:=C.map (fun l=>l.map iE)=lb.map (fun l=>l.map iE)) (qC R.2.2.1 R.2.2.2 he));clear he;go_wp2_with fail;go_ret;exact⟨by rw[HD.out]<;>rfl,R.1.trans b0.out⟩)
 obtain rfl:j=C.length:=by omega
 have R:=J2 J I;clear J I;have HD:=oH (av (P:=C.map (fun l=>l.map iE)=lb.map (fun l=>l.map iE)) (lP b1.out (fun i x y hx hy=>R.2 i x y (lS.1 hx).1 hx hy)));go_wp2_with fail;go_ret;exact⟨by rw[HD.out]<;>rfl,R.1⟩)
 have t0:((C.length:Int) !=(lb.length:Int))=true:=by simp;omega
 have HD:=oH (au (P:=C.map (fun l=>l.map iE)=lb.map (fun l=>l.map iE)) (sS o));clear o;go_enter func57,ntmps57;go_wp2_with fail;go_ret;exact⟨by rw[HD.out]<;>rfl,kR⟩
def fC (b:aw):Int×Int×List (List bz):=(b.params,b.vars,b.Ng.map fun l=>l.map iE)
theorem CG {x y:aw}:fC x=fC y↔x.params=y.params∧x.vars=y.vars∧x.Ng.map (fun l=>l.map iE)=y.Ng.map (fun l=>l.map iE):=by simp[fC]
theorem AQ (S T:Nat→Prop)(x y:aw)(xa ya:Value)(w:World)(h1:bW S w xa x.Ng)(h2:bW T w ya y.Ng):
 Calls prog 56 #[.agg #[.int .i64 x.params,.int .i64 x.vars,xa],.agg #[.int .i64 y.params,.int .i64 y.vars,ya]] w fun e w'=>e=.returned (.bool (pB (fC x=fC y)))∧aa All w w':=by
 have hA:=fun wn (hk:aa All w wn)=>Ac S T xa ya x.Ng y.Ng wn (bg.keep hk.all h1) (bg.keep hk.all h2);obtain⟨a1,a6,rfl,_⟩:=h1;obtain⟨a7,a8,rfl,_⟩:=h2;obtain⟨W1,j⟩:=eQ ((w.alloc (.cells #[.int .i64 x.params,.int .i64 x.vars,.slice a1 x.Ng.length a6] 35)).alloc (.cells #[.int .i64 y.params,.int .i64 y.vars,.slice a7 y.Ng.length a8] 35));have C:=aC2 j;have R:=aA1 j;have Y:=aB0 j aE1;have e0:=R.cl 0;have e1:=R.cl 1;have e2:=R.cl 2;have f0:=Y.cl 0;have f1:=Y.cl 1;have f2:=Y.cl 2;have o:=J3 j C hA;have HI:=oH (CG (x:=x) (y:=y));clear j C R Y hA;go_enter func56,ntmps56;go_upto_region 1 with fail;rw[←o.1];by_cases d0:x.params=y.params
 case neg=>(
 have t0:(x.params==y.params)=false:=by rw[bE];exact d0
 have I:=oH (au (P:=fC x=fC y) fun h=>d0 (HI.1 h).1);clear d0;go_wp2_with fail;go_ret;exact⟨by rw[I.out]<;>rfl,o.2.1⟩)
 have t0:(x.params==y.params)=true:=by rw[cy];exact d0
 have D0:=oH d0;clear d0;by_cases d1:x.vars=y.vars
 case neg=>(
 have t1:(x.vars==y.vars)=false:=by rw[bE];exact d1
 have I:=oH (au (P:=fC x=fC y) fun h=>d1 (HI.1 h).2.1);clear d1;go_wp2_with fail;go_ret;exact⟨by rw[I.out]<;>rfl,o.2.1⟩)
 have t1:(x.vars==y.vars)=true:=by rw[cy];exact d1
 have D1:=oH d1;clear d1;go_wp2_with fail;refine(o.2.2 _ o.2.1).mono ?_;rintro e w3 ⟨rfl,J⟩;have H3:=oH J;clear J;have I:=oH (show pB (x.Ng.map (fun l=>l.map iE)=y.Ng.map (fun l=>l.map iE))=pB (fC x=fC y) by
  by_cases h:x.Ng.map (fun l=>l.map iE)=y.Ng.map (fun l=>l.map iE);·rw[av h,av (HI.2 ⟨D0.out,D1.out,h⟩)]
  rw[au h,au fun h'=>h (HI.1 h').2.2])
 rw[I.out];go_wp2_with fail;go_ret;exact⟨rfl,o.2.1.trans H3.out⟩
theorem wJ (S T:Nat→Prop)(va vb:Value)(C lb:List (aw))(w:World)(ha:mL S w va C)(hb:mL T w vb lb):
 Calls prog 55 #[va,vb,.func (.func 56) #[] #[]] w fun e w'=>e=.returned (.bool (pB (C.map fC=lb.map fC)))∧aa All w w':=by
 have hA:=bV.la ha;have hB:=bV.la hb;obtain⟨A1,c1,rfl,l1,l2,l3,_⟩:=ha;obtain⟨A2,c2,rfl,m1,m2,m3,_⟩:=hb;unfold maxLen at l2 m2;have HV:=J2 hA hB;clear hA hB;by_cases o:C.length=lb.length;·(
 have t0:((C.length:Int) !=(lb.length:Int))=false:=by simp;omega
 have b8:=oH o;have c4:=eE o;have c5:=eE o.symm;clear o;go_enter func55,ntmps55;go_wp2_with fail;go_loopg [17] C.length (fun g s wr=>∃j:Nat,j≤C.length∧g=C.length-j∧s=.int .i64 j∧aa All w wr∧∀(i:Nat) x y,i<j→C[i]? =some x→lb[i]? =some y→fC x=fC y);·exact⟨0,by omega,by omega,rfl,kR,fun i a b h=>by omega⟩
 obtain⟨j,hj,rfl,rfl,R,I⟩:=hrel;by_cases b9:j<C.length;·(
 obtain⟨x,hx⟩:=eG b9;have b1:j<lb.length:=by omega
 obtain⟨y,hy⟩:=eG b1;obtain⟨xb,xo,c6,rfl,_,_,a6,xa,rfl,b2,_⟩:=aZ (HV.1 wr R) hx;obtain⟨yb,yo,c7,rfl,_,_,a7,ya,rfl,b3,_⟩:=aZ (HV.2 wr R) hy;have hS:=fun wn (hk:aa All wr wn)=>AQ S T x y xa ya wn (bg.keep hk.all b2) (bg.keep hk.all b3);obtain⟨b4,b5,rfl,_⟩:=b2;obtain⟨c0,c3,rfl,_⟩:=b3;have x0:=a6 0 _ rfl;have x1:=a6 1 _ rfl;have x2:=a6 2 _ rfl;have y0:=a7 0 _ rfl;have y1:=a7 1 _ rfl;have y2:=a7 2 _ rfl;rw[dj] at x0 y0;obtain⟨Wa,a8⟩:=eQ (wr.alloc (.cells #[.int .i64 x.params,.int .i64 x.vars,.slice b4 x.Ng.length b5] 35));have Y:=aC1 a8;have y0:=Y.cell trivial y0;have y1:=Y.cell trivial y1;have y2:=Y.cell trivial y2;obtain⟨W2,a1⟩:=eQ (Wa.alloc (.cells #[.int .i64 y.params,.int .i64 y.vars,.slice c0 y.Ng.length c3] 35));have b0:aa All wr W2:=by rw[a1];exact Y.alloc _
 have bX:al W2 wr.heap.size 35 #[.int .i64 x.params,.int .i64 x.vars,.slice b4 x.Ng.length b5]:=by rw[a1,a8];exact(al.new _ _ _).alloc _
 have bY:=aA0 a1;have e0:=bX.cl 0;have f0:=bY.cl 0;have e1:=bX.cl 1;have f1:=bY.cl 1;have e2:=bX.cl 2;have f2:=bY.cl 2;have HS:=oH (hS W2 b0);have J:=J7 R I hx hy a1 b0 a8;clear R I hx hy a1 b0 bX bY hS a6 a7 a8 Y;go_upto_region 6 with fail;rw[←J.2.2.2.2.2.2];go_upto_region 7 with fail;rw[←J.2.2.2.2.1];go_wp2_with fail;refine HS.out.mono ?_;rintro e w3 ⟨rfl,b6⟩;have b7:=oH b6;clear b6;by_cases he:fC x=fC y
 ·rw[av he];have HE:=oH he;clear he;go_wp2_with fail;go_roundg (C.length-(j+1))
  ·refine⟨j+1,by omega,rfl,by go_num,(J.1.trans J.2.2.2.2.2.1).trans b7.out,fun i a b hi ha hb=>?_⟩
   by_cases e:i=j;·subst e;rw[J.2.2.1] at ha;rw[J.2.2.2.1] at hb;cases ha;cases hb;exact HE.out
   exact J.2.1 i a b (by omega) ha hb
  omega
 rw[au he];have HD:=oH (au (P:=C.map fC=lb.map fC) (qC J.2.2.1 J.2.2.2.1 he));clear he;go_wp2_with fail;go_ret;exact⟨by rw[HD.out]<;>rfl,(J.1.trans J.2.2.2.2.2.1).trans b7.out⟩)
 obtain rfl:j=C.length:=by omega
 have J:=J2 R I;clear R I;have HD:=oH (av (P:=C.map fC=lb.map fC) (lP b8.out (fun i x y hx hy=>J.2 i x y (lS.1 hx).1 hx hy)));go_wp2_with fail;go_ret;exact⟨by rw[HD.out]<;>rfl,J.1⟩)
 have t0:((C.length:Int) !=(lb.length:Int))=true:=by simp;omega
 have HD:=oH (au (P:=C.map fC=lb.map fC) (sS o));clear o;go_enter func55,ntmps55;go_wp2_with fail;go_ret;exact⟨by rw[HD.out]<;>rfl,kR⟩
def Cy (p:aH)(c:aE)(w:World)(e:Ending)(j:World):Prop:=∃(o:Option Addr) (C I:Nat) (J:Option Addr) (R Y:Nat) (n:Int),e=.returned (.tuple #[.agg #[.slice o C I,.slice J R Y],.int .i64 n])∧(n=0↔eM p c)∧aa All w j
theorem AH (S:Nat→Prop)(pv cv:Value)(p:aH)(c:aE)(w:World)(hp:dJ S w pv p)(hc:cQ S w cv c)(hl:gz w)(hS:∀b,S b→b<w.heap.size)(h6:kj p)(hz:lY c):
 Calls prog 32 #[pv,cv] w (Cy p c w):=by
 have e4:=cB.la hp;have e5:=dc.la hc;obtain⟨j7,vu,vi,vo,rfl,h7,h8,h9,i1,i6⟩:=hp;obtain⟨a1,n1,rfl,_⟩:=h7;obtain⟨a2,n2,rfl,_⟩:=h8;obtain⟨a3,n3,rfl,_⟩:=h9;obtain⟨a4,n4,rfl,_⟩:=i1;obtain⟨ka,kf,rfl,b2,b4,b6⟩:=hc;have e6:=bu.la b2;have e7:=bV.la b4;obtain⟨A1,c1,rfl,_⟩:=b2;obtain⟨A2,c2,rfl,_⟩:=b4;obtain⟨W0,a6⟩:=eQ (((w.alloc (.cells #[.slice a1 p.MZ.length n1,.slice a2 p.up.length n2,.slice a3 p.Nb.length n3,.slice a4 p.Na.length n4,.int .i64 p.Nc] 26)).alloc (.cells #[.slice A1 c.Nd.length c1,.slice A2 c.Nf.length c2,.int .i64 c.main] 30)).alloc (.cells #[.slice none 0 0,.slice none 0 0] 81));have j8:w.heap.size+3≤W0.heap.size:=by rw[a6];simp
 have e8:=aC3 a6;have bP:=aA2 a6;have bK:=aB1 a6 aE1;have bQ:=aB0 a6 aE2;have I:=J5 a6 e8 bP bK bQ;have HP:=J6 e4 e5 e6 e7 hl b6;clear a6 e8 bP bK bQ e4 e5 e6 e7 hl i6 b6;go_enter func32,ntmps32;go_upto_region 1 with fail;rw[←I.1];obtain⟨p0,p1,p2,p3,p4⟩:=I.2.2.1.c5;obtain⟨k0,k1,k2⟩:=I.2.2.2.1.c3;have HR:=oH (mo S _ p W0 (HP.1 W0 I.2.1) (HP.2.2.2.2.1.keep I.2.1));by_cases a8:dD p;·(
 rw[av a8] at HR;have i7:=oH a8;clear a8;go_wp2_with fail;refine HR.out.mono ?_;rintro e w1 ⟨rfl,b7⟩;have J:=oH b7;clear b7 k0 k1 k2 p0 p1 p2 p3 p4;have Y:=I.2.2.2.1.kept J.out trivial;obtain⟨k0,k1,k2⟩:=Y.c3;clear Y;by_cases hf:c.Nf.length≤64;·(
 have t1:decide ((64:Int)<(c.Nf.length:Int))=false:=by simp;omega
 by_cases ha:c.Nd.length≤16;·(
 have t2:decide ((16:Int)<(c.Nd.length:Int))=false:=by simp;omega
 have e9:=J2 hf ha;clear hf ha;have c9:=oH (I.2.1.trans J.out);have b8:=I.2.2.1.kept J.out trivial;obtain⟨p0,p1,p2,p3,p4⟩:=b8.c5;clear b8;have HC:=oH (DM S _ _ p c w1 (HP.1 w1 c9.out) (HP.2.1 w1 c9.out) h6 hz);go_wp2_with fail;refine HC.out.mono ?_;rintro e w2 ⟨B1,m1,d1,B2,m2,d2,b,rfl,hb,d8,h0⟩;have h1:=oH (J.out.trans d8);have j0:=oH h0;have j6:=oH d8;clear d8 h0 t1 t2 k0 k1 k2 p0 p1 p2 p3 p4;obtain⟨W3,b9⟩:=eQ (w2.alloc (.cells #[.slice B1 m1 d1,.slice B2 m2 d2] 81));have d9:=aC1 b9;have b3:=aA0 b9;have j9:w2.heap.size+1≤W3.heap.size:=by rw[b9];simp
 have k3:=h1.out.size;have H3:=J4 b9 (h1.out.trans d9) b3 d9;clear b9 d9 b3;by_cases R:pi p c;·(
 obtain rfl:b=true:=by rw[hb];exact av R
 have d7:=oH R;clear R hb;have j1:=oH (sI.keep (H3.2.2.2.all) (j0.out d7.out));have c0:=oH (I.2.1.trans H3.2.1);go_upto_region 4 with fail;rw[←H3.1];have b8:=I.2.2.1.kept H3.2.1 trivial;obtain⟨p0,p1,p2,p3,p4⟩:=b8.c5;obtain⟨q0,q1⟩:=H3.2.2.1.c2;clear b8;have k4:=c0.out.size;have j2:=oH (zc (fun b=>b<W3.heap.size) _ _ p (cP p c) W3 (cB.wide (fun b hb=>by have:=hS b hb;show b<_;omega) (HP.1 W3 c0.out)) (sI.wide (fun b (hb:w1.heap.size≤b∧b<w2.heap.size)=>by show b<_;omega) j1.out) (HP.2.2.2.2.1.keep c0.out) (fun _ h=>h));go_wp2_with fail;refine j2.out.mono ?_;rintro e w4 ⟨e0,R1,r1,s1,R2,r2,s2,mm,k5,n,rfl,C,c3⟩;clear p0 p1 p2 p3 p4 q0 q1;obtain⟨W5,c6⟩:=eQ (w4.alloc (.cells #[.slice R1 r1 s1,.slice R2 r2 s2,.int .i64 mm] 30));have c7:=aC1 c6;have b5:=aA0 c6;have H5:=J5 c6 (H3.2.1.trans (e0.trans c7)) b5 c7 (e0.trans c7);clear c6 c7 b5 e0;by_cases hr:ot p (cP p c);·(
 obtain⟨rfl,e1⟩:=c3 hr;obtain⟨v1,v2,hv,b2,b4,b6⟩:=e1;iterate 2 injection hv with hv
 simp only[List.cons.injEq,Value.int.injEq,true_and,and_true] at hv;obtain⟨rfl,rfl,rfl⟩:=hv;have a7:=J4 hr (bu.keep H5.2.2.2.1.all b2) (bV.keep H5.2.2.2.1.all b4) b6;clear hr b2 b4 b6 C c3;have h2:=oH (I.2.1.trans H5.2.1);go_upto_region 7 with fail;rw[←H5.1];obtain⟨r0,r1,r2⟩:=H5.2.2.1.c3;have Y:=I.2.2.2.1.kept H5.2.1 trivial;obtain⟨k0,k1,k2⟩:=Y.c3;clear Y;obtain⟨M,hM⟩:=eR ((qV p (cP p c)).main);rw[hM] at r2;by_cases hm:M=c.main
 ·have tm:(M !=c.main)=false:=by simpa using hm
  have HM:=oH (hM.trans hm);clear hm hM;have HQ:=oH (yh _ _ _ _ _ c.Nd W5 a7.2.1 (HP.2.2.1 W5 h2.out));go_wp2_with fail;refine HQ.out.mono ?_;rintro e w6 ⟨rfl,e2⟩;have c4:=oH (H5.2.1.trans e2);have c5:=oH e2;clear e2;by_cases b0:(qV p (cP p c)).Nd=c.Nd
  ·rw[bL b0];have j3:=oH b0;clear b0;clear r0 r1 r2 k0 k1 k2;have Y:=I.2.2.2.1.kept c4.out trivial;obtain⟨k0,k1,k2⟩:=Y.c3;have h3:=H5.2.2.1.kept c5.out trivial;obtain⟨r0,r1,r2⟩:=h3.c3;clear Y h3;skip;have j4:=oH (wJ _ _ _ _ _ c.Nf w6 (bV.keep c5.out.all a7.2.2.1) (HP.2.2.2.1 w6 (I.2.1.trans c4.out)));go_wp2_with fail;refine j4.out.mono ?_;rintro e w7 ⟨rfl,e3⟩;have c8:=oH (c4.out.trans e3);have h4:=oH (c5.out.trans e3);clear e3;by_cases b1:(qV p (cP p c)).Nf.map fC=c.Nf.map fC;·rw[av b1];have j5:=oH b1;clear b1;clear r0 r1 r2 k0 k1 k2;have h5:=(H3.2.2.1.kept (H5.2.2.2.2.trans h4.out) trivial);obtain⟨q0,q1⟩:=h5.c2;clear h5;have o:=I.2.2.2.2.kept c8.out trivial;obtain⟨x0,x1⟩:=o.c2;have f0:=o.free 0;have f1:=o.free 1;have j:=(o.set 0 (.slice B1 m1 d1)).set 1 (.slice B2 m2 d2);have g0:=j.cell 0;have g1:=j.cell 1;simp only[ga,gc] at g0 g1;have HE:=oH (am ((((I.2.1.trans c8.out).all (S:=fun b=>b<w.heap.size)).setCell (p:=⟨w.heap.size+1+1,0,none⟩) (.inl (by show¬(w.heap.size+1+1<w.heap.size);omega)) (.slice B1 m1 d1)).setCell (p:=⟨w.heap.size+1+1,1,none⟩) (.inl (by show¬(w.heap.size+1+1<w.heap.size);omega)) (.slice B2 m2 d2)));clear o j;go_wp2_with fail;exact bodyPost_ret (v:=.tuple #[.agg #[.slice B1 m1 d1,.slice B2 m2 d2],.int .i64 0]) (by simp[results,Tryz.f32,go_sem,g0,g1]) rfl ⟨B1,m1,d1,B2,m2,d2,0,rfl,⟨fun _=>⟨i7.out,e9.1,e9.2,d7.out,a7.1.2.1,a7.1.2.2,HM.out,j3.out,j5.out⟩,fun _=>rfl⟩,HE.out⟩
   rw[au b1];have HN:=oH b1;clear b1 r0 r1 r2 k0 k1 k2;have C:=oH (show¬eM p c from fun h=>HN.out h.2.2.2.2.2.2.2.2);have o:=I.2.2.2.2.kept (c8.out) trivial;obtain⟨x0,x1⟩:=o.c2;have f0:=o.free 0;have f1:=o.free 1;have j:=(o.set 0 (.slice none 0 0)).set 1 (.slice none 0 0);have g0:=j.cell 0;have g1:=j.cell 1;simp only[ga,gc] at g0 g1;have HE:=oH (am ((((I.2.1.trans (c8.out)).all (S:=fun b=>b<w.heap.size)).setCell (p:=⟨w.heap.size+1+1,0,none⟩) (.inl (by show¬(w.heap.size+1+1<w.heap.size);omega)) (.slice none 0 0)).setCell (p:=⟨w.heap.size+1+1,1,none⟩) (.inl (by show¬(w.heap.size+1+1<w.heap.size);omega)) (.slice none 0 0)));clear o j;go_wp2_with fail;exact bodyPost_ret (v:=.tuple #[.agg #[.slice none 0 0,.slice none 0 0],.int .i64 1]) (by simp[results,Tryz.f32,go_sem,g0,g1]) rfl ⟨none,0,0,none,0,0,1,rfl,⟨fun h=>absurd h (by decide),fun h=>absurd h C.out⟩,HE.out⟩
  rw[cI b0];have HN:=oH b0;clear b0 r0 r1 r2 k0 k1 k2 tm;have C:=oH (show¬eM p c from fun h=>HN.out h.2.2.2.2.2.2.2.1);have o:=I.2.2.2.2.kept (c4.out) trivial;obtain⟨x0,x1⟩:=o.c2;have f0:=o.free 0;have f1:=o.free 1;have j:=(o.set 0 (.slice none 0 0)).set 1 (.slice none 0 0);have g0:=j.cell 0;have g1:=j.cell 1;simp only[ga,gc] at g0 g1;have HE:=oH (am ((((I.2.1.trans (c4.out)).all (S:=fun b=>b<w.heap.size)).setCell (p:=⟨w.heap.size+1+1,0,none⟩) (.inl (by show¬(w.heap.size+1+1<w.heap.size);omega)) (.slice none 0 0)).setCell (p:=⟨w.heap.size+1+1,1,none⟩) (.inl (by show¬(w.heap.size+1+1<w.heap.size);omega)) (.slice none 0 0)));clear o j;go_wp2_with fail;exact bodyPost_ret (v:=.tuple #[.agg #[.slice none 0 0,.slice none 0 0],.int .i64 1]) (by simp[results,Tryz.f32,go_sem,g0,g1]) rfl ⟨none,0,0,none,0,0,1,rfl,⟨fun h=>absurd h (by decide),fun h=>absurd h C.out⟩,HE.out⟩
 have tm:(M !=c.main)=true:=by simpa using hm
 have HN:=oH (show¬(qV p (cP p c)).main=c.main from fun h=>hm (hM▸h));clear hm hM;have C:=oH (show¬eM p c from fun h=>HN.out h.2.2.2.2.2.2.1);have o:=I.2.2.2.2.kept (H5.2.1) trivial;obtain⟨x0,x1⟩:=o.c2;have f0:=o.free 0;have f1:=o.free 1;have j:=(o.set 0 (.slice none 0 0)).set 1 (.slice none 0 0);have g0:=j.cell 0;have g1:=j.cell 1;simp only[ga,gc] at g0 g1;have HE:=oH (am ((((I.2.1.trans (H5.2.1)).all (S:=fun b=>b<w.heap.size)).setCell (p:=⟨w.heap.size+1+1,0,none⟩) (.inl (by show¬(w.heap.size+1+1<w.heap.size);omega)) (.slice none 0 0)).setCell (p:=⟨w.heap.size+1+1,1,none⟩) (.inl (by show¬(w.heap.size+1+1<w.heap.size);omega)) (.slice none 0 0)));clear o j;go_wp2_with fail;exact bodyPost_ret (v:=.tuple #[.agg #[.slice none 0 0,.slice none 0 0],.int .i64 1]) (by simp[results,Tryz.f32,go_sem,g0,g1]) rfl ⟨none,0,0,none,0,0,1,rfl,⟨fun h=>absurd h (by decide),fun h=>absurd h C.out⟩,HE.out⟩)
 have hn:=C hr;have tn:(n !=0)=true:=by simpa using hn
 have HN:=oH hr;clear hr hn C c3;go_upto_region 7 with fail;rw[←H5.1];have C:=oH (show¬eM p c from fun h=>HN.out ⟨h.1,h.2.2.2.2.1,h.2.2.2.2.2.1⟩);have o:=I.2.2.2.2.kept (H5.2.1) trivial;obtain⟨x0,x1⟩:=o.c2;have f0:=o.free 0;have f1:=o.free 1;have j:=(o.set 0 (.slice none 0 0)).set 1 (.slice none 0 0);have g0:=j.cell 0;have g1:=j.cell 1;simp only[ga,gc] at g0 g1;have HE:=oH (am ((((I.2.1.trans (H5.2.1)).all (S:=fun b=>b<w.heap.size)).setCell (p:=⟨w.heap.size+1+1,0,none⟩) (.inl (by show¬(w.heap.size+1+1<w.heap.size);omega)) (.slice none 0 0)).setCell (p:=⟨w.heap.size+1+1,1,none⟩) (.inl (by show¬(w.heap.size+1+1<w.heap.size);omega)) (.slice none 0 0)));clear o j;go_wp2_with fail;exact bodyPost_ret (v:=.tuple #[.agg #[.slice none 0 0,.slice none 0 0],.int .i64 1]) (by simp[results,Tryz.f32,go_sem,g0,g1]) rfl ⟨none,0,0,none,0,0,1,rfl,⟨fun h=>absurd h (by decide),fun h=>absurd h C.out⟩,HE.out⟩)
 obtain rfl:b=false:=by rw[hb];exact au R
 have HN:=oH R;clear R hb;go_upto_region 4 with fail;rw[←H3.1];have C:=oH (show¬eM p c from fun h=>HN.out h.2.2.2.1);have o:=I.2.2.2.2.kept (H3.2.1) trivial;obtain⟨x0,x1⟩:=o.c2;have f0:=o.free 0;have f1:=o.free 1;have j:=(o.set 0 (.slice none 0 0)).set 1 (.slice none 0 0);have g0:=j.cell 0;have g1:=j.cell 1;simp only[ga,gc] at g0 g1;have HE:=oH (am ((((I.2.1.trans (H3.2.1)).all (S:=fun b=>b<w.heap.size)).setCell (p:=⟨w.heap.size+1+1,0,none⟩) (.inl (by show¬(w.heap.size+1+1<w.heap.size);omega)) (.slice none 0 0)).setCell (p:=⟨w.heap.size+1+1,1,none⟩) (.inl (by show¬(w.heap.size+1+1<w.heap.size);omega)) (.slice none 0 0)));clear o j;go_wp2_with fail;exact bodyPost_ret (v:=.tuple #[.agg #[.slice none 0 0,.slice none 0 0],.int .i64 1]) (by simp[results,Tryz.f32,go_sem,g0,g1]) rfl ⟨none,0,0,none,0,0,1,rfl,⟨fun h=>absurd h (by decide),fun h=>absurd h C.out⟩,HE.out⟩)
 have t2:decide ((16:Int)<(c.Nd.length:Int))=true:=by simp;omega
 have HN:=oH ha;clear ha;have C:=oH (show¬eM p c from fun h=>HN.out h.2.2.1);have o:=I.2.2.2.2.kept (J.out) trivial;obtain⟨x0,x1⟩:=o.c2;have f0:=o.free 0;have f1:=o.free 1;have j:=(o.set 0 (.slice none 0 0)).set 1 (.slice none 0 0);have g0:=j.cell 0;have g1:=j.cell 1;simp only[ga,gc] at g0 g1;have HE:=oH (am ((((I.2.1.trans (J.out)).all (S:=fun b=>b<w.heap.size)).setCell (p:=⟨w.heap.size+1+1,0,none⟩) (.inl (by show¬(w.heap.size+1+1<w.heap.size);omega)) (.slice none 0 0)).setCell (p:=⟨w.heap.size+1+1,1,none⟩) (.inl (by show¬(w.heap.size+1+1<w.heap.size);omega)) (.slice none 0 0)));clear o j;go_wp2_with fail;exact bodyPost_ret (v:=.tuple #[.agg #[.slice none 0 0,.slice none 0 0],.int .i64 1]) (by simp[results,Tryz.f32,go_sem,g0,g1]) rfl ⟨none,0,0,none,0,0,1,rfl,⟨fun h=>absurd h (by decide),fun h=>absurd h C.out⟩,HE.out⟩)
 have t1:decide ((64:Int)<(c.Nf.length:Int))=true:=by simp;omega
 have HN:=oH hf;clear hf;have C:=oH (show¬eM p c from fun h=>HN.out h.2.1);have o:=I.2.2.2.2.kept (J.out) trivial;obtain⟨x0,x1⟩:=o.c2;have f0:=o.free 0;have f1:=o.free 1;have j:=(o.set 0 (.slice none 0 0)).set 1 (.slice none 0 0);have g0:=j.cell 0;have g1:=j.cell 1;simp only[ga,gc] at g0 g1;have HE:=oH (am ((((I.2.1.trans (J.out)).all (S:=fun b=>b<w.heap.size)).setCell (p:=⟨w.heap.size+1+1,0,none⟩) (.inl (by show¬(w.heap.size+1+1<w.heap.size);omega)) (.slice none 0 0)).setCell (p:=⟨w.heap.size+1+1,1,none⟩) (.inl (by show¬(w.heap.size+1+1<w.heap.size);omega)) (.slice none 0 0)));clear o j;go_wp2_with fail;exact bodyPost_ret (v:=.tuple #[.agg #[.slice none 0 0,.slice none 0 0],.int .i64 1]) (by simp[results,Tryz.f32,go_sem,g0,g1]) rfl ⟨none,0,0,none,0,0,1,rfl,⟨fun h=>absurd h (by decide),fun h=>absurd h C.out⟩,HE.out⟩)
 rw[au a8] at HR;have HN:=oH a8;clear a8;go_wp2_with fail;refine HR.out.mono ?_;rintro e w1 ⟨rfl,b7⟩;have J:=oH b7;clear b7 p0 p1 p2 p3 p4 k0 k1 k2;have C:=oH (show¬eM p c from fun h=>HN.out h.1);have o:=I.2.2.2.2.kept (J.out) trivial;obtain⟨x0,x1⟩:=o.c2;have f0:=o.free 0;have f1:=o.free 1;have j:=(o.set 0 (.slice none 0 0)).set 1 (.slice none 0 0);have g0:=j.cell 0;have g1:=j.cell 1;simp only[ga,gc] at g0 g1;have HE:=oH (am ((((I.2.1.trans (J.out)).all (S:=fun b=>b<w.heap.size)).setCell (p:=⟨w.heap.size+1+1,0,none⟩) (.inl (by show¬(w.heap.size+1+1<w.heap.size);omega)) (.slice none 0 0)).setCell (p:=⟨w.heap.size+1+1,1,none⟩) (.inl (by show¬(w.heap.size+1+1<w.heap.size);omega)) (.slice none 0 0)));clear o j;go_wp2_with fail;exact bodyPost_ret (v:=.tuple #[.agg #[.slice none 0 0,.slice none 0 0],.int .i64 1]) (by simp[results,Tryz.f32,go_sem,g0,g1]) rfl ⟨none,0,0,none,0,0,1,rfl,⟨fun h=>absurd h (by decide),fun h=>absurd h C.out⟩,HE.out⟩
theorem AI (S:Nat→Prop)(pv cv:Value)(p:aH)(c:aE)(w:World)(hp:dJ S w pv p)(hc:cQ S w cv c)(hl:gz w)(hS:∀b,S b→b<w.heap.size)(a7:kj p)(hz:lY c):
 Calls prog 20 #[pv,cv] w fun e w'=>e=.returned (.bool (pB (eM p c)))∧aa All w w':=by
 have I:=cB.la hp;have J:=dc.la hc;obtain⟨b8,vu,vi,vo,rfl,a8,b0,b1,b2,b3⟩:=hp;obtain⟨a1,n1,rfl,_⟩:=a8;obtain⟨a2,n2,rfl,_⟩:=b0;obtain⟨a3,n3,rfl,_⟩:=b1;obtain⟨a4,n4,rfl,_⟩:=b2;obtain⟨ka,kf,rfl,b4,b5,b6⟩:=hc;obtain⟨A1,c1,rfl,_⟩:=b4;obtain⟨A2,c2,rfl,_⟩:=b5;obtain⟨R,C⟩:=eQ ((w.alloc (.cells #[.slice a1 p.MZ.length n1,.slice a2 p.up.length n2,.slice a3 p.Nb.length n3,.slice a4 p.Na.length n4,.int .i64 p.Nc] 26)).alloc (.cells #[.slice A1 c.Nd.length c1,.slice A2 c.Nf.length c2,.int .i64 c.main] 30));have j:=aC2 C;have b7:=j.size;have o:=AH S _ _ p c R (I R j) (J R j) (hl.keep j) (fun b hb=>by have:=hS b hb;omega) a7 hz;have Y:=J3 o j C;clear I J b3 b6 j C o b7 hl hS;go_enter func20,ntmps20;go_upto_region 1 with fail;rw[←Y.2.2];have bP:al R w.heap.size 26 #[.slice a1 p.MZ.length n1,.slice a2 p.up.length n2,.slice a3 p.Nb.length n3,.slice a4 p.Na.length n4,.int .i64 p.Nc]:=by rw[Y.2.2];exact(al.new _ _ _).alloc _
 have bK:al R (w.heap.size+1) 30 #[.slice A1 c.Nd.length c1,.slice A2 c.Nf.length c2,.int .i64 c.main]:=by rw[Y.2.2];exact ac (by simp)
 obtain⟨p0,p1,p2,p3,p4⟩:=bP.c5;obtain⟨k0,k1,k2⟩:=bK.c3;clear bP bK;go_wp2_with fail;refine Y.1.mono ?_;rintro e w1 ⟨B1,m1,d1,B2,m2,d2,n,rfl,hn,a6⟩;have HN:=J2 (Y.2.1.trans a6) (show decide (n=0)=pB (eM p c) by
  by_cases h:n=0;·rw[bL h,av (hn.1 h)]
  rw[cI h,au fun h'=>h (hn.2 h')])
 clear hn a6;go_wp2_with fail;go_ret;exact⟨by rw[←HN.2]<;>rfl,HN.1.alloc _⟩
end Go.Proofs.YtccbbkopmlnkpaaGreatDoor
