/- Part 27 of the proof (its last part says what is proved). No condition. -/
import Derived.Test.YtgdlhckhpolnnaaGreatDoorK25
namespace Go.Proofs.YtgdlhckhpolnnaaGreatDoor
set_option maxRecDepth 100000
set_option maxHeartbeats 8000000
open Go.RowKit Go.Proofs.Tryz
structure lY (c:aE):Prop where
 Nd:c.Nd.length≤1048576
 Nf:c.Nf.length≤1048576
 Ng:∀b∈c.Nf,b.Ng.length≤1048576
 ops:∀b∈c.Nf,∀l∈b.Ng,l.length≤1048576
 op:∀b∈c.Nf,∀l∈b.Ng,∀x∈l,Cv x
theorem Jl:(prog.info? 106).map (fun i=>(i.zero,i.size,i.bytes))=some (some (.agg #[.string ⟨#[]⟩,.int .i64 0,.string ⟨#[]⟩,.int .i64 0]),4,48):=by kernel_rfl
theorem Jm:(prog.info? 135).map (fun i=>(i.zero,i.size,i.bytes))=some (some (.agg #[.string ⟨#[]⟩,.slice none 0 0,.int .i64 0]),3,48):=by kernel_rfl
theorem Ld:(prog.info? 110).map (fun i=>(i.zero,i.size,i.bytes))=some (some (.agg #[.string ⟨#[]⟩,.slice none 0 0,.slice none 0 0,.int .i64 0]),4,72):=by kernel_rfl
theorem Jo:(prog.info? 188).map (fun i=>(i.zero,i.size,i.bytes))=some (some (.agg #[.int .u8 0,.int .u8 0,.string ⟨#[]⟩,.string ⟨#[]⟩,.string ⟨#[]⟩,.slice none 0 0,.slice none 0 0,.int .i64 0,.int .i64 0]),9,120):=by kernel_rfl
theorem KJ {p:aH}{k:Nat}{j:Int×Int}{o:ByteArray}(C:p.MZ[j.2.toNat]? =some o)(I:aV j.1)(J:kj p)(S:Nat→Prop)(w:World):EB S w [.string (aL 97 (k:Int)),.int .i64 j.1,.string o,.int .i64 0] (sa p k j):=by
 have e:p.MZ.getD j.2.toNat gR=o:=by rw[iG,C];rfl
 have R:=fa 97 (k:Int);have hl:=J.MZ o (mG C);refine⟨?_,I,?_,?_,?_⟩
 ·show [Value.string (aL 97 (k:Int)),.int .i64 j.1,.string o,.int .i64 0]=[Value.string (aL 97 (k:Int)),.int .i64 j.1,.string (p.MZ.getD j.2.toNat gR),.int .i64 0]
  rw[e]
 ·show aV 0
  unfold aV;omega
 ·show(aL 97 (k:Int)).size≤_
  omega
 show(p.MZ.getD j.2.toNat gR).size≤_;rw[e];omega
theorem Iu {p:aH}{main:Int}{k:Nat}{b:aw}{o:ByteArray}{S:Nat→Prop}{w:World}{C a2:Option Addr}{I J R c2:Nat}(j:qY main k=o)(Y:gB S w (.slice C I J) ((List.range b.params.toNat).map fun(k:Nat)=>aL 118 k))(h2:mJ S w (.slice a2 R c2) (b.Ng.mapIdx (eh p main))):
 uA S w [.string o,.slice C I J,.slice a2 R c2,.int .i64 0] (bU p main k b):=by
 subst j;refine⟨_,_,rfl,Y,h2,?_,?_,fun s hs=>?_⟩
 ·show aV 0
  unfold aV;omega
 ·show(qY main k).size≤_;unfold qY;split;·decide
  have:=fa 102 (k:Int);omega
 obtain⟨i,_,rfl⟩:=dr.1 hs;have:=fa 118 (i:Int);omega
theorem Fa {p:aH}{main:Int}{k:Nat}{l:List bz}{S:Nat→Prop}{w:World}{j:Option Addr}{o C:Nat}(I:Im S w (.slice j o C) (l.map (jC p main))):
 qh S w [.string (aL 98 (k:Int)),.slice j o C,.int .i64 0] (eh p main k l):=by
 refine⟨_,rfl,I,?_,?_⟩
 ·show aV 0
  unfold aV;omega
 show(aL 98 (k:Int)).size≤_;have:=fa 98 (k:Int);omega
theorem Jp {S:Nat→Prop}{w:World}{cs:List Value}{x:cX}(h:zH S w cs x):zH (fun b=>S b∧b<w.heap.size) w cs x:=by obtain⟨a,f,e,j,o,C⟩:=h;exact⟨a,f,e,rF j,rF o,C⟩
theorem yA {S:Nat→Prop}{a w:World}(h:aa (fun b=>S b∧b<a.heap.size) a w):aa S a w:=⟨h.os,h.output,h.size,fun k j o=>h.block k j ⟨o,j⟩⟩
theorem tO {α β:Type}{l:List α}{g:Nat→α→β}{k:Nat}{a:α}(h:l[k]? =some a):(l.mapIdx g).take (k+1)=(l.mapIdx g).take k++[g k a]:=by rw[cU,jA,h];rfl
abbrev Kw:=dR 4 106 EB
abbrev BB:=dR 4 110 uA
abbrev xB:=dR 3 135 qh
abbrev EI:=dR 9 188 zH
def EP (p:aH)(c:aE)(w:World)(e:Ending)(w':World):Prop:=∃(j:Option Addr) (o C:Nat) (I:Option Addr) (J c2:Nat) (b:Bool),e=.returned (.tuple #[.agg #[.slice j o C,.slice I J c2],.bool b])∧b=pB (pi p c)∧aa All w w'∧(pi p c→BF (fun b=>w.heap.size≤b∧b<w'.heap.size) w' (.agg #[.slice j o C,.slice I J c2]) (cP p c))
theorem DM (S:Nat→Prop)(pv cv:Value)(p:aH)(c:aE)(w:World)(hp:dJ S w pv p)(hc:cQ S w cv c)(s7:kj p)(hz:lY c):
 Calls prog 158 #[pv,cv] w (EP p c w):=by
 obtain⟨iA,IA⟩:=iH Jl;obtain⟨iB,IB⟩:=iH Jm;obtain⟨iF,IF⟩:=iH Ld;obtain⟨iI,II⟩:=iH Jo;obtain⟨iS,IS⟩:=iH FV;have s8:=cB.la hp;obtain⟨G2,vu,vi,vo,rfl,s9,C8,C9,D0,D1⟩:=hp;have v7:=ax.la s9;obtain⟨vl,cl,rfl,q1,q2,q3,_⟩:=s9;obtain⟨a,f,rfl,w0,w1,D3⟩:=hc;have w3:=bu.la w0;have w6:=bV.la w1;obtain⟨A1,c1,rfl,l1,l2,l3,_⟩:=w0;obtain⟨A2,c2,rfl,m1,m2,m3,_⟩:=w1;unfold maxLen at l2 m2;obtain⟨W0,j1⟩:=eQ (((((w.alloc (.cells #[.slice vl p.MZ.length cl,vu,vi,vo,.int .i64 p.Nc] 26)).alloc (.cells #[.slice A1 c.Nd.length c1,.slice A2 c.Nf.length c2,.int .i64 c.main] 30)).alloc (.cells #[.slice none 0 0,.slice none 0 0] 69)).alloc (.cells #[.slice none 0 0,.slice none 0 0] 69)));have w7:=aD4 j1;have w9:=aC4 j1;have x3:=aA3 j1;have x4:=aB2 j1 aE1;have x5:=aB1 j1 aE2;have x6:=aB0 j1 aE3;have HW:=J5 j1 w7 w9 x6 x5;have HP:=J7 x3 x4 s8 v7 w3 w6 D3;have HZ:=J2 s7 hz;have za:=hz.Nd;have zf:=hz.Nf;clear j1 w7 w9 x6 x5 x3 x4 s8 v7 w3 w6 C8 C9 D0 D1 hz s7;go_enter func158,ntmps158;go_upto_region 2 with fail;rw[←HW.1];have c0:=HP.2.1.cl 0;go_wp2_with fail;go_loopg [23] c.Nd.length (fun g D4 wr=>∃(k:Nat) (vA:Value),k≤c.Nd.length∧g=c.Nd.length-k∧D4=.int .i64 k∧aa (fun b=>b≠w.heap.size+1+1+1) W0 wr∧al wr (w.heap.size+1+1+1) 69 #[vA,.slice none 0 0]∧Kw (w.heap.size+4) wr vA ((c.Nd.mapIdx (sa p)).take k)∧∀(i:Nat) a,i<k→c.Nd[i]? =some a→0≤a.2∧a.2<p.MZ.length);·exact⟨0,_,by omega,by omega,rfl,kR,HW.2.2.2.1,dR.nil,fun i a h=>by omega⟩
 obtain⟨k,vA,hk,rfl,rfl,R,I,J,a1⟩:=hrel;have h8:aa All w wr:=dV (HW.2.2.1.all.trans (R.mono fun b Y=>by show b≠_;omega));by_cases q7:k<c.Nd.length;·(
 obtain⟨C,cp,rfl⟩:=J.form;have j4:((c.Nd.mapIdx (sa p)).take k).length=k:=by rw[fN,List.length_mapIdx];omega
 rw[j4] at J I;obtain⟨ar,q8⟩:=eG q7;obtain⟨bb,o,cs,rfl,D5,D6,a8,rfl,x7,F7⟩:=aZ (HP.2.2.2.2.1 wr h8) q8;have x0:=a8 0 _ rfl;rw[dj] at x0;have x1:=a8 1 _ rfl;obtain⟨W1,d7⟩:=eQ (wr.alloc (.cells #[.int .i64 ar.1,.int .i64 ar.2] 52));have k2:=aC1 d7;have b1:=aA0 d7;have k6:=aD1 d7;have o8:=R.size;rw[HW.2.1] at o8;have HR:=J6 R I J a1 h8 q8;have H1:=J5 d7 k2 b1 x7 k6;have e1:=b1.cl 1;have e0:=b1.cl 0;have p0:=((HP.1.kept R (by show _≠_;omega)).kept k2 trivial).cl 0;clear a8 R I J a1 h8 q8 d7 k2 b1 k6;go_upto_region 5 with fail;rw[←H1.1];by_cases ok:0≤ar.2∧ar.2<p.MZ.length;·(
 obtain⟨k7,q9⟩:=ok;have t1:decide (ar.2<0)=false:=by simp;omega
 have t2:decide ((p.MZ.length:Int)≤ar.2)=false:=by simp;omega
 obtain⟨lv,r3⟩:∃lv,p.MZ[ar.2.toNat]? =some lv:=⟨_,lG (by omega)⟩;obtain⟨vb,x8,vv,rfl,_,x9,rfl⟩:=bn (HP.2.2.2.1 W1 (HR.2.2.2.2.1.trans H1.2.1)) r3;go_wp2_with fail;have hq:∀wn,aa All W1 wn→wn.cell? ⟨w.heap.size+1+1+1,0,none⟩=some (.slice C k cp)∧wn.cell? ⟨wr.heap.size,0,none⟩=some (.int .i64 ar.1)∧wn.cell? ⟨wr.heap.size,1,none⟩=some (.int .i64 ar.2)∧wn.cell? ⟨w.heap.size,0,none⟩=some (.slice (some ⟨vb,x8,none⟩) p.MZ.length cl)∧wn.cell? ⟨vb,x8+ar.2.toNat,none⟩=some (.string lv):=fun wn hk=>
  ⟨((HR.2.1.kept H1.2.1 trivial).kept hk trivial).cell 0,hk.cell trivial e0,hk.cell trivial e1,hk.cell trivial p0,hk.cell trivial x9⟩
 have HN:=J3 hq (fun wn=>ez 97 (k:Int) (by unfold aV;omega) wn) r3;clear hq r3 x9;refine R1 14 W1 [53] (fun _ v wn=>∃g,v=.slice (some ⟨g,0,none⟩) 1 1∧W1.heap.size≤g∧al wn g 106 #[.string (aL 97 (k:Int)),.int .i64 ar.1,.string lv,.int .i64 0]) (fun i=>if i=3 then some (·=.string (aL 97 (k:Int))) else if i=13 then some (fun v=>∃g,v=.slice (some ⟨g,0,none⟩) 1 1) else none) ?_;refine O0 ?_;refine O3 (fun wn hk hp=>by(have e1:=HN.1 wn hk;have q0:=e1.1;have q1:=e1.2.1;have q2:=e1.2.2.1;have q3:=e1.2.2.2.1;have q4:=e1.2.2.2.2;go_simp;with_reducible rfl)) ?_;refine O0 ?_;refine tW (v:=.string (aL 97 (k:Int))) (by rfl) (by rfl) (by rfl) (by intro d hd;cases hd;decide) (fun wn hk hp=>⟨_,_,by(go_simp<;>with_reducible rfl),(HN.2.1 wn).mono fun e w' h=>⟨h.1,hk.trans h.2,fun t _ v ⟨g,e,h1,h2⟩=>⟨g,e,h1,h2.kept h.2 trivial⟩⟩⟩) ?_;simp only[PS];iterate 9 first|refine O3 (fun wn hk hp=>by(have e1:=HN.1 wn hk;have q0:=e1.1;have q1:=e1.2.1;have q2:=e1.2.2.1;have q3:=e1.2.2.2.1;have q4:=e1.2.2.2.2;go_simp;with_reducible rfl)) ?_|refine O0 ?_
 refine OB fun g wt _ d8 D7 k8=>?_;have r4:=HR.2.2.1.keep pH (H1.2.1.trans d8) (fun _ _ _=>trivial);have d9:=(HR.2.1.kept H1.2.1 trivial).kept d8 trivial;have o9:=d8.size;rw[H1.2.2.2.2] at o9;have HT:=J4 d8 d9 k8 r4;clear d8 d9 k8;go_wp2_with (
  at_builtin;go_loud (
  refine bN (E:=EB) _ pH rfl (.tmp 41) (.tmp 53) 66 rfl iA _ 48 underlying66 IA.1 IA.2.1 IA.2.2.1 IA.2.2.2 rfl (by decide) _ _ rfl HT.2.2.2 g 0 1 rfl [.string (aL 97 (k:Int)),.int .i64 ar.1,.string lv,.int .i64 0] (sa p k ar) rfl ?_ ?_ (by rw[j4];omega) (by omega) ?_ (fun _=>False) ?_ ?_ ?_;·intro j u hu;rw[cN,HT.2.2.1.cell,List.getElem?_toArray];exact hu
  ·intro u hu;simp only[fX,List.not_mem_nil,or_false] at hu;rcases hu with rfl|rfl|rfl|rfl<;>rfl
  ·omega
  ·intro b Y
   exact Y.elim
  ·exact KJ HN.2.2 H1.2.2.2.1 HZ.1 _ _
  intro C2 k9 w2 l0 b2 c5;have a7:=HT.2.1.grown b2 (fun e=>by have:=(c5 _ e.symm);omega);have y0:=a7.cl 0;have y1:=a7.free 0;have H2:=J4 a7 l0 b2 c5;clear a7 l0 b2 c5))
 go_roundg (c.Nd.length-(k+1))
 ·refine⟨k+1,.slice C2 (k+1) k9,by omega,rfl,by go_num,(((HR.1.trans (H1.2.1.trans HT.1).all).grown H2.2.2.1 fun b Y=>.inr (by have:=H2.2.2.2 b Y;have:=HW.2.1;omega)).setCell (.inl fun h=>h rfl) _),by simpa using H2.1.set 0 (.slice C2 (k+1) k9),?_,fun i x hi hx=>?_⟩
  ·rw[tO HR.2.2.2.2.2]
   have h3:=H2.2.1;rw[j4] at h3;exact h3.keep pH ((aa.refl (fun b=>b≠w.heap.size+1+1+1) _).setCell (.inl fun h=>h rfl) _) fun b Y l4=>by show b≠_;omega
  by_cases e:i=k;·subst e;rw[HR.2.2.2.2.2] at hx;injection hx with hx;subst hx;exact⟨k7,q9⟩
  exact HR.2.2.2.1 i x (by omega) hx
 omega)
 by_cases k7:ar.2<0
 ·have t1:decide (ar.2<0)=true:=by simp;omega
  have o0:=(HR.2.1.kept H1.2.1 trivial).cl 0;have o1:=(HR.2.1.kept H1.2.1 trivial).cl 1;have r0:=((HW.2.2.2.2.kept HR.1 (by show _≠_;omega)).kept H1.2.1 trivial).cl 0;have r1:=((HW.2.2.2.2.kept HR.1 (by show _≠_;omega)).kept H1.2.1 trivial).cl 1;have f0:=((HW.2.2.2.2.kept HR.1 (by show _≠_;omega)).kept H1.2.1 trivial).free 0;have f1:=((HW.2.2.2.2.kept HR.1 (by show _≠_;omega)).kept H1.2.1 trivial).free 1;go_wp2_with fail;have b0:=((((HR.1.trans H1.2.1.all).mono fun b (Y:b≠w.heap.size+1+1+1∧b≠w.heap.size+1+1)=>Y.1).setCell (p:=⟨w.heap.size+1+1,0,none⟩) (.inl fun h=>h.2 rfl) (.slice C k cp)).setCell (p:=⟨w.heap.size+1+1,1,none⟩) (.inl fun h=>h.2 rfl) (.slice none 0 0));have a7:=(((HW.2.2.2.2.kept HR.1 (by show _≠_;omega)).kept H1.2.1 trivial).set 0 (.slice C k cp)).set 1 (.slice none 0 0);have g0:=a7.cell 0;have g1:=a7.cell 1;simp only[ga,gc] at g0 g1;refine bodyPost_ret (v:=.tuple #[.agg #[.slice C k cp,.slice none 0 0],.bool false]) (by simp[results,Tryz.f158,go_sem,g0,g1]) rfl ⟨_,_,_,_,_,_,false,rfl,(au fun h=>?_).symm,dV (HW.2.2.1.all.trans (b0.mono fun b Y=>by constructor<;>(show b≠_)<;>omega)),fun h=>?_⟩;·have:=h.1 ar (mG HR.2.2.2.2.2);omega
  have:=h.1 ar (mG HR.2.2.2.2.2);omega
 have t1:decide (ar.2<0)=false:=by simp;omega
 have t2:decide ((p.MZ.length:Int)≤ar.2)=true:=by simp;omega
 have o0:=(HR.2.1.kept H1.2.1 trivial).cl 0;have o1:=(HR.2.1.kept H1.2.1 trivial).cl 1;have r0:=((HW.2.2.2.2.kept HR.1 (by show _≠_;omega)).kept H1.2.1 trivial).cl 0;have r1:=((HW.2.2.2.2.kept HR.1 (by show _≠_;omega)).kept H1.2.1 trivial).cl 1;have f0:=((HW.2.2.2.2.kept HR.1 (by show _≠_;omega)).kept H1.2.1 trivial).free 0;have f1:=((HW.2.2.2.2.kept HR.1 (by show _≠_;omega)).kept H1.2.1 trivial).free 1;go_wp2_with fail;have b0:=((((HR.1.trans H1.2.1.all).mono fun b (Y:b≠w.heap.size+1+1+1∧b≠w.heap.size+1+1)=>Y.1).setCell (p:=⟨w.heap.size+1+1,0,none⟩) (.inl fun h=>h.2 rfl) (.slice C k cp)).setCell (p:=⟨w.heap.size+1+1,1,none⟩) (.inl fun h=>h.2 rfl) (.slice none 0 0));have a7:=(((HW.2.2.2.2.kept HR.1 (by show _≠_;omega)).kept H1.2.1 trivial).set 0 (.slice C k cp)).set 1 (.slice none 0 0);have g0:=a7.cell 0;have g1:=a7.cell 1;simp only[ga,gc] at g0 g1;refine bodyPost_ret (v:=.tuple #[.agg #[.slice C k cp,.slice none 0 0],.bool false]) (by simp[results,Tryz.f158,go_sem,g0,g1]) rfl ⟨_,_,_,_,_,_,false,rfl,(au fun h=>?_).symm,dV (HW.2.2.1.all.trans (b0.mono fun b Y=>by constructor<;>(show b≠_)<;>omega)),fun h=>?_⟩;·have:=h.1 ar (mG HR.2.2.2.2.2);omega
 have:=h.1 ar (mG HR.2.2.2.2.2);omega)
 obtain rfl:k=c.Nd.length:=by omega
 rw[oF (by rw[List.length_mapIdx];omega)] at J;have e9:∀a∈c.Nd,0≤a.2∧a.2<p.MZ.length:=fun a ha=>by obtain⟨i,hi⟩:=List.getElem?_of_mem ha;exact a1 i a (lS.1 hi).1 hi
 have hA:=J.read (bw:=48) pH (by rw[List.length_mapIdx];omega);obtain⟨C,cp,rfl⟩:=J.form;rw[List.length_mapIdx] at hA I;have d1:=(HP.2.1.kept R (by show _≠_;omega)).cl 1;have y4:=R.size;rw[HW.2.1] at y4;obtain⟨wo,rfl⟩:=eQ wr;have HO:=J5 R I hA e9 h8;clear R I J hA a1 e9 h8;go_wp2_with fail;go_loopg [60] c.Nf.length (fun g D8 wr=>∃(k:Nat) (vF:Value),k≤c.Nf.length∧g=c.Nf.length-k∧D8=.int .i64 k∧aa (fun b=>b≠w.heap.size+1+1+1) wo wr∧al wr (w.heap.size+1+1+1) 69 #[.slice C c.Nd.length cp,vF]∧BB wo.heap.size wr vF ((c.Nf.mapIdx (bU p c.main)).take k)∧∀(i:Nat) b,i<k→c.Nf[i]? =some b→lX p b);·exact⟨0,_,by omega,by omega,rfl,kR,HO.2.1,dR.nil,fun i a h=>by omega⟩
 obtain⟨k,vF,hk,rfl,rfl,R,I,J,a1⟩:=hrel;have h8:aa All w wr:=dV (HW.2.2.1.all.trans ((HO.1.trans R).mono fun b Y=>by show b≠_;omega));have o8:=R.size;obtain⟨D,dp,rfl⟩:=J.form;have j4:((c.Nf.mapIdx (bU p c.main)).take k).length=k:=by rw[fN,List.length_mapIdx];omega
 rw[j4] at J I;by_cases q7:k<c.Nf.length;·(
 obtain⟨b,Y⟩:=eG q7;have o2:=mG Y;obtain⟨bb,o,cs,rfl,D5,D6,a8,vb,rfl,y6,G3,G4⟩:=aZ (HP.2.2.2.2.2.1 wr h8) Y;have x0:=a8 0 _ rfl;rw[dj] at x0;have x1:=a8 1 _ rfl;have x2:=a8 2 _ rfl;have p5:=bg.la y6;obtain⟨A3,c3,rfl,n1,n2,n3,_⟩:=y6;unfold maxLen at n2;have zb:=HZ.2.Ng b o2;have zo:=HZ.2.ops b o2;have zx:=HZ.2.op b o2;obtain⟨W1,d7⟩:=eQ (wr.alloc (.cells #[.int .i64 b.params,.int .i64 b.vars,.slice A3 b.Ng.length c3] 42));have k2:=aC1 d7;have b1:=aA0 d7;have k6:=aD1 d7;obtain⟨wf,rfl⟩:=eQ wr;have HR:=J6 R I J a1 h8 Y;have H1:=J7 d7 k2 b1 k6 p5 zo zx;have HN:=oH (fun wn=>ez 102 (k:Int) (by unfold aV;omega) wn);clear a8 R I J a1 h8 Y d7 k2 b1 k6 p5 zo zx o2;go_upto_region 12 with fail;rw[←H1.1];go_wp2_with fail;refine(HN.out _).mono ?_;rintro e w2 ⟨rfl,b0⟩;have D9:=b0.size;rw[H1.2.2.2.1] at D9;obtain⟨W3,k3⟩:=eQ (w2.alloc (.cells #[.string (aL 102 (k:Int)),.slice none 0 0,.slice none 0 0,.int .i64 0] 110));have l5:aa All wf W3:=by rw[k3];exact(H1.2.1.trans b0).alloc _
 have b3:=aA0 k3;have b1:al W3 wf.heap.size 42 #[.int .i64 b.params,.int .i64 b.vars,.slice A3 b.Ng.length c3]:=by rw[k3];exact(H1.2.2.1.kept b0 trivial).alloc _
 have y7:=aD1 k3;have H3:=J5 k3 l5 b3 b1 y7;clear b0 k3 l5 b3 b1 y7;go_upto_region 13 with fail;rw[←H3.1];have m2:=(((HP.2.1.kept HO.1 (by show _≠_;omega)).kept HR.1 (by show _≠_;omega)).kept H3.2.1 trivial).cl 2;go_upto_if 71 with fail;obtain⟨FN,l6⟩:=eR (qY c.main k);go_cut [] (fun wx=>aa (fun b=>b≠w2.heap.size) W3 wx∧al wx w2.heap.size 110 #[.string FN,.slice none 0 0,.slice none 0 0,.int .i64 0])
 case first=>(
 have q0:=H3.2.2.1.cl 0;have f0:=H3.2.2.1.free 0;by_cases em:(k:Int)=c.main
 ·have tm:((k:Int)==c.main)=true:=by rw[cy];exact em
  have HE:=oH (show FN=⟨#[109,97,105,110]⟩ by rw[←l6];unfold qY;simp[em,fO]);clear em l6;go_wp2_with fail;go_meet;exact⟨kR.setCell (.inl fun h=>h rfl) _,by rw[HE.out];simpa using H3.2.2.1.set 0 (.string ⟨#[109,97,105,110]⟩)⟩
 have tm:((k:Int)==c.main)=false:=by rw[bE];exact em
 have HE:=oH (show FN=aL 102 (k:Int) by rw[←l6];unfold qY;simp[em]);clear em l6;go_wp2_with fail;go_meet;exact⟨kR,by rw[HE.out];exact H3.2.2.1⟩)
 obtain⟨o3,y8⟩:=hcut;have y9:=o3.size;rw[H3.2.2.2.2] at y9;have b1:=H3.2.2.2.1.kept o3 (by show _≠_;omega);have e0:=b1.cl 0;have HX:=J3 o3 y8 b1;clear o3 y8 b1 m2;by_cases ok:0≤b.params∧b.params≤6;·(
 obtain⟨k7,q9⟩:=ok;have t1:decide (b.params<0)=false:=by simp;omega
 have t2:decide ((6:Int)<b.params)=false:=by simp;omega
 obtain⟨pn,E0⟩:∃pn:Nat,b.params.toNat=pn:=⟨_,rfl⟩;have HB:=J3 k7 q9 E0;go_wp2_with fail;go_loopg [84] pn (fun g E4 wr=>∃(j:Nat) (v1:Value),j≤pn∧g=pn-j∧E4=.int .i64 j∧aa (fun b=>b≠w2.heap.size) wc wr∧al wr w2.heap.size 110 #[.string FN,v1,.slice none 0 0,.int .i64 0]∧wr.ownsRow wc.heap.size 9 1 v1 j (de ((List.range j).map fun(k:Nat)=>aL 118 k)));·exact⟨0,_,by omega,by omega,rfl,kR,HX.2.1,⟨rfl,.inl ⟨rfl,rfl⟩⟩⟩
 obtain⟨j,v1,hj,rfl,rfl,R,I,h0⟩:=hrel;have E5:=R.size;by_cases p6:j<pn;·(
 have t5:decide ((j:Int)<b.params)=true:=by simp;omega
 have hn:=fun wn=>ez 118 (j:Int) (by unfold aV;omega) wn;obtain⟨E1,ep,rfl⟩:=aU h0;have A0:∀wn,aa All wr wn→wn.cell? ⟨w2.heap.size,1,none⟩=some (.slice E1 j ep):=fun wn hk=>(I.kept hk trivial).cell 1;have A5:=J2 hn A0;have r5:=J3 R I h0;clear hn A0 R I h0;go_wp2_with fail;refine R1 5 wr [91] (fun _ v wn=>∃g,v=.slice (some ⟨g,0,none⟩) 1 1∧wr.heap.size≤g∧al wn g 9 #[.string (aL 118 (j:Int))]) (fun i=>if i=3 then some (·=.string (aL 118 (j:Int))) else if i=4 then some (fun v=>∃g,v=.slice (some ⟨g,0,none⟩) 1 1) else none) ?_;refine O0 ?_;refine O3 (fun wn hk hp=>by(have e1:=A5.2 wn hk;go_simp;with_reducible rfl)) ?_;refine O0 ?_;refine tW (v:=.string (aL 118 (j:Int))) (by rfl) (by rfl) (by rfl) (by intro d hd;cases hd;decide) (fun wn hk hp=>⟨_,_,by(go_simp<;>with_reducible rfl),(A5.1 wn).mono fun e w' h=>⟨h.1,hk.trans h.2,fun t _ v ⟨g,e,h1,h2⟩=>⟨g,e,h1,h2.kept h.2 trivial⟩⟩⟩) ?_;simp only[PS];refine OB fun g wt _ d8 D7 k8=>?_;have j5:=be r5.2.2 d8 (fun _ _=>trivial);have d9:=r5.2.1.kept d8 trivial;have o4:=k8.cl 0;have o9:=d8.size;have HT:=J3 d8 d9 o4;clear d8 d9 k8;go_wp2_with (
  at_builtin;go_loud (
  refine aR _ rfl (.tmp 88) (.tmp 91) 22 rfl wc.heap.size 9 iS _ 1 16 underlying22 IS.1 IS.2.1 IS.2.2.1 IS.2.2.2 rfl (by decide) _ _ _ rfl j5 (some ⟨g,0,none⟩) 1 1 [.string (aL 118 (j:Int))] rfl rfl ?_ ?_ (by unfold maxLen;omega) (by omega) (by omega) ?_;·(
 intro _;exact⟨_,_,rfl,fun j u hu=>by
  rcases j with _|j;·rw[cN,HT.2.2];exact hu
  simp at hu⟩)
  ·intro u hu
   rw[cx.1 hu];rfl
  intro v2 w4 j6 b2 p7;obtain⟨C2,k9,rfl⟩:=aU j6;have j9:=HT.2.1.grown b2 (fun e=>by have:=(aD j5 e.symm).1;omega);have y5:=j9.cl 1;have f5:=j9.free 1;have H2:=J4 j9 j6 b2 p7;clear j9 j6 b2 p7))
 go_roundg (pn-(j+1))
 ·refine⟨j+1,.slice C2 (j+1) k9,by omega,rfl,by go_num,(((r5.1.trans HT.1.all).grown H2.2.2.1 fun b Y=>.inr (aD j5 Y).1).setCell (.inl fun h=>h rfl) _),?_,?_⟩
  ·have:=H2.1.set 1 (.slice C2 (j+1) k9)
   simpa using this
  have e:de ((List.range (j+1)).map fun(k:Nat)=>aL 118 k)=de ((List.range j).map fun(k:Nat)=>aL 118 k)++[.string (aL 118 (j:Int))]:=by rw[List.range_succ];simp[de]
  rw[e];exact be H2.2.1 ((aa.refl (fun b=>b≠w2.heap.size) _).setCell (.inl fun h=>h rfl) _) fun b Y=>by have:=(aD H2.2.1 Y).1;show b≠_;omega
 omega)
 obtain rfl:pn=j:=by omega
 have t5:decide ((pn:Int)<b.params)=false:=by simp;omega
 have A6:=rF (pY (S:=fun b=>wc.heap.size≤b) h0 (l:=(List.range pn).map fun(k:Nat)=>aL 118 k) (by simp) (by simp;omega) fun g hg=>(aD h0 hg).1);obtain⟨E1,ep,rfl⟩:=aU h0;have b1:=HX.2.2.kept R (by show _≠_;omega);have e2:=b1.cl 2;obtain⟨wp,rfl⟩:=eQ wr;have o5:=J3 R I A6;clear R I A6 h0 b1;go_wp2_with fail;go_loopg [98] b.Ng.length (fun g E6 wr=>∃(j:Nat) (vB:Value),j≤b.Ng.length∧g=b.Ng.length-j∧E6=.int .i64 j∧aa (fun b=>b≠w2.heap.size) wp wr∧al wr w2.heap.size 110 #[.string FN,.slice E1 pn ep,vB,.int .i64 0]∧xB wp.heap.size wr vB ((b.Ng.mapIdx (eh p c.main)).take j)∧∀(i:Nat) l,i<j→b.Ng[i]? =some l→∀x∈l,dx p x);·exact⟨0,_,by omega,by omega,rfl,kR,o5.2.1,dR.nil,fun i a h=>by omega⟩
 obtain⟨j,vB,hj,rfl,rfl,R,I,J,a1⟩:=hrel;have E7:=R.size;obtain⟨E2,bp,rfl⟩:=J.form;have l7:((b.Ng.mapIdx (eh p c.main)).take j).length=j:=by rw[fN,List.length_mapIdx];omega
 rw[l7] at J I;by_cases p6:j<b.Ng.length;·(
 obtain⟨l,hl⟩:=eG p6;have r7:=mG hl;have b5:aa (fun b=>b≠w2.heap.size) wf wr:=(H3.2.1.all.trans HX.1).trans (o5.1.trans R);have j7:aa All wf wr:=dV (b5.mono fun b Y=>by show b≠_;omega);obtain⟨lb,lo,lv,rfl,G5,G6,A7⟩:=bn (H1.2.2.2.2.1 wr j7) hl;have p8:=cT.la A7;obtain⟨A4,c4,rfl,z1,z2,z3,_⟩:=A7;unfold maxLen at z2;have zl:=H1.2.2.2.2.2.1 l r7;have zy:=H1.2.2.2.2.2.2 l r7;have E8:=oH (fun wn=>ez 98 (j:Int) (by unfold aV;omega) wn);obtain⟨wb,rfl⟩:=eQ wr;have c8:=J9 R I J a1 hl p8 zy b5 j7;clear R I J a1 hl p8 zy b5 j7 r7;go_wp2_with fail;refine(E8.out _).mono ?_;rintro e w5 ⟨rfl,r8⟩;have G7:=r8.size;obtain⟨W6,l8⟩:=eQ (w5.alloc (.cells #[.string (aL 98 (j:Int)),.slice none 0 0,.int .i64 0] 135));have A8:aa All wb W6:=by rw[l8];exact r8.alloc _
 have b6:=aA0 l8;have r9:=aD1 l8;have H6:=J4 l8 A8 b6 r9;clear r8 l8 A8 b6 r9;go_upto_region 26 with fail;rw[←H6.1];go_wp2_with fail;go_loopg [108] l.length (fun g A9 wr=>∃(i:Nat) (vI:Value),i≤l.length∧g=l.length-i∧A9=.int .i64 i∧aa (fun b=>b≠w5.heap.size) W6 wr∧al wr w5.heap.size 135 #[.string (aL 98 (j:Int)),vI,.int .i64 0]∧EI W6.heap.size wr vI ((l.map (jC p c.main)).take i)∧∀(i':Nat) x,i'<i→l[i']? =some x→dx p x);·exact⟨0,_,by omega,by omega,rfl,kR,H6.2.2.1,dR.nil,fun i a h=>by omega⟩
 obtain⟨i,vI,hi,rfl,rfl,R,I,J,a1⟩:=hrel;have s0:=R.size;rw[H6.2.2.2] at s0;obtain⟨E3,ip,rfl⟩:=J.form;have l9:((l.map (jC p c.main)).take i).length=i:=by rw[fN,ce];omega
 rw[l9] at J I;by_cases B0:i<l.length;·(
 obtain⟨x,hx⟩:=eG B0;have B1:=mG hx;have b5:aa (fun b=>b≠w5.heap.size) wb wr:=H6.2.1.all.trans R;have j7:aa All wb wr:=dV (b5.mono fun b Y=>by show b≠_;omega);have m9:aa All wf wr:=c8.2.2.2.2.2.2.2.2.trans j7;have s3:aa All w wr:=HR.2.2.2.2.1.trans m9;obtain⟨xb,xo,G8,rfl,G9,F8,h9,xa,xf,rfl,B2,B3,E9⟩:=aZ (c8.2.2.2.2.2.1 wr j7) hx;have B4:=ah.la B2;have B5:=ah.la B3;obtain⟨F0,F1,rfl,_⟩:=B2;obtain⟨F2,F3,rfl,_⟩:=B3;have z0:=h9 0 _ rfl;rw[dj] at z0;have z1:=h9 1 _ rfl;have z2:=h9 2 _ rfl;have z3:=h9 3 _ rfl;have z4:=h9 4 _ rfl;have z5:=h9 5 _ rfl;have z6:=h9 6 _ rfl;have z7:=h9 7 _ rfl;have z8:=h9 8 _ rfl;obtain⟨W7,n0⟩:=eQ (wr.alloc (.cells #[.int .u8 x.kind,.int .u8 x.op,.int .i64 x.dst,.int .i64 x.ref,.int .i64 x.Ni,.slice F0 x.args.length F1,.slice F2 x.Nh.length F3,.int .i64 x.num,.int .i64 x.Nj] 56));have j8:=aC1 n0;have b7:=aA0 n0;have s4:=aD1 n0;have k4:=(((HP.1.kept HO.1 (by show _≠_;omega)).kept HR.1 (by show _≠_;omega)).kept m9 trivial).kept j8 trivial;have o6:=(((HP.2.1.kept HO.1 (by show _≠_;omega)).kept HR.1 (by show _≠_;omega)).kept m9 trivial).kept j8 trivial;have p0:=k4.cl 0;have p1:=k4.cl 1;have p2:=k4.cl 2;have p3:=k4.cl 3;have p4:=k4.cl 4;have d0:=o6.cl 0;have d1:=o6.cl 1;have d2:=o6.cl 2;have e0:=b7.cl 0;have e1:=b7.cl 1;have e2:=b7.cl 2;have e3:=b7.cl 3;have e4:=b7.cl 4;have e5:=b7.cl 5;have e6:=b7.cl 6;have e7:=b7.cl 7;have e8:=b7.cl 8;have B6:=AR S _ p (.slice A1 c.Nd.length c1) (.slice (some ⟨bb,o,none⟩) c.Nf.length c2) c.main _ _ x W7 (HP.2.2.1 W7 (s3.trans j8)) (B4 W7 j8) (B5 W7 j8) E9 (c8.2.2.2.2.2.2.1 x B1) HZ.1;have c6:=J7 R I J a1 hx m9 s3;have H7:=J4 n0 j8 B6 s4;clear R I J a1 b5 j7 m9 s3 h9 B4 B5 n0 j8 b7 s4 k4 o6 B6 hx B1;go_upto_region 29 with fail;rw[←H7.1];go_wp2_with fail;refine H7.2.2.1.mono ?_;rintro e w8 ⟨u,B7,rfl,p9,B8,dd,rr,tt,ia,s5,ik,ja,jn,jk,rfl,hI⟩;have B9:=oH p9;clear p9;have F4:=B8.size;rw[H7.2.2.2] at F4;obtain⟨o7,j2⟩:=eQ (w8.alloc (.cells #[.int .u8 x.kind,.int .u8 x.op,.string dd,.string rr,.string tt,.slice ia s5 ik,.slice ja jn jk,.int .i64 x.num,.int .i64 x.Nj] 188));have n4:=aC1 j2;have C0:=aA0 j2;have n5:=aD1 j2;have n7:aa All wr o7:=(H7.2.1.trans B8).trans n4;have b4:=J5 j2 n4 C0 n5 n7;clear p0 p1 p2 p3 p4 d0 d1 d2 e0 e1 e2 e3 e4 e5 e6 e7 e8 z0 z1 z2 z3 z4 z5 z6 z7 z8;clear j2 n4 C0 n5 n7;go_upto_region 30 with fail;rw[←b4.1];by_cases h4:dx p x;·(
 have tb:B7=true:=by rw[B9.out];exact av h4
 have HI:=J2 h4 (Jp (hI h4));clear hI h4;subst tb;have y1:=(c6.2.1.kept b4.2.2.2.2 trivial).cl 1;have g0:=b4.2.2.1.cl 0;have g1:=b4.2.2.1.cl 1;have g2:=b4.2.2.1.cl 2;have g3:=b4.2.2.1.cl 3;have g4:=b4.2.2.1.cl 4;have g5:=b4.2.2.1.cl 5;have g6:=b4.2.2.1.cl 6;have g7:=b4.2.2.1.cl 7;have g8:=b4.2.2.1.cl 8;obtain⟨s6,j0⟩:=eQ (o7.alloc (.cells #[.int .u8 x.kind,.int .u8 x.op,.string dd,.string rr,.string tt,.slice ia s5 ik,.slice ja jn jk,.int .i64 x.num,.int .i64 x.Nj] 188));have k0:aa All wr s6:=by rw[j0];exact b4.2.2.2.2.alloc _
 have q5:aa All w8 s6:=by rw[j0];exact b4.2.1.alloc _
 have C1:=aA0 j0;have F9:=aD1 j0;have n5:=eE b4.2.2.2.1;have F5:=eE b4.2.2.2.1.symm;have k1:EI W6.heap.size s6 (.slice E3 i ip) ((l.map (jC p c.main)).take i):=c6.2.2.1.keep nM k0 fun _ _ _=>trivial;have q6:=c6.2.1.kept k0 trivial;have k5:=J6 j0 k0 C1 q6 k1 (nM.keep q5.all HI.2);clear j0 k0 C1 q6 k1 q5;have s4:=eE H7.2.2.2;have G0:=eE H7.2.2.2.symm;have r9:=eE H6.2.2.2;have G1:=eE H6.2.2.2.symm;go_wp2_with (
  at_builtin;go_loud (
  rw[←k5.1];refine bN (E:=zH) _ nM rfl (.tmp 123) (.tmp 125) 133 rfl iI _ 120 underlying133 II.1 II.2.1 II.2.2.1 II.2.2.2 rfl (by decide) _ _ rfl k5.2.2.2.2.1 o7.heap.size 0 1 rfl [.int .u8 x.kind,.int .u8 x.op,.string dd,.string rr,.string tt,.slice ia s5 ik,.slice ja jn jk,.int .i64 x.num,.int .i64 x.Nj] (jC p c.main x) rfl ?_ ?_ (by rw[l9];omega) (by omega) ?_ (fun b=>W7.heap.size≤b∧b<w8.heap.size) ?_ ?_ ?_;·intro j u hu;rw[cN,k5.2.2.1.cell,List.getElem?_toArray];exact hu
  ·intro u hu;simp only[fX,List.not_mem_nil,or_false] at hu;rcases hu with rfl|rfl|rfl|rfl|rfl|rfl|rfl|rfl|rfl<;>rfl
  ·omega
  ·intro b Y;have C3:W7.heap.size≤b∧b<w8.heap.size:=Y;obtain⟨_,n8⟩:=c6.2.2.1.own;exact⟨by omega,by omega,fun e=>by have:=(aD n8 e).2;omega⟩
  ·exact k5.2.2.2.2.2
  intro D2 j3 w4 b8 b2 c5;have c7:=k5.2.2.2.1.grown b2 (fun e=>by have:=c5 _ e.symm;omega);have u1:=c7.cl 1;have v1:=c7.free 1;have H4:=J4 c7 b8 b2 c5;clear c7 b8 b2 c5))
 go_roundg (l.length-(i+1))
 ·refine⟨i+1,.slice D2 (i+1) j3,by omega,rfl,by go_num,((c6.1.trans k5.2.1.all).grown H4.2.2.1 fun b Y=>.inr (H4.2.2.2 b Y)).setCell (.inl fun h=>h rfl) _,by simpa using H4.1.set 1 (.slice D2 (i+1) j3),?_,fun i' y hi hy=>?_⟩
  ·have e:(l.map (jC p c.main)).take (i+1)=(l.map (jC p c.main)).take i++[jC p c.main x]:=by rw[cU,cL,c6.2.2.2.2.1];rfl
   rw[e];have h3:=H4.2.1;rw[l9] at h3;exact h3.keep nM ((aa.refl (fun b=>b≠w5.heap.size) _).setCell (.inl fun h=>h rfl) _) fun b Y l4=>by show b≠_;omega
  by_cases e:i'=i;·subst e;rw[c6.2.2.2.2.1] at hy;injection hy with hy;subst hy;exact HI.1
  exact c6.2.2.2.1 i' y (by omega) hy
 omega)
 have tb:B7=false:=by rw[B9.out];exact au h4
 have HI:=oH h4;clear hI h4;subst tb;have o0:=((HR.2.1.kept c6.2.2.2.2.2.1 trivial).kept b4.2.2.2.2 trivial).cell 0;have o1:=((HR.2.1.kept c6.2.2.2.2.2.1 trivial).kept b4.2.2.2.2 trivial).cell 1;have a6:=(((HW.2.2.2.2.kept HO.1 (by show _≠_;omega)).kept HR.1 (by show _≠_;omega)).kept c6.2.2.2.2.2.1 trivial).kept b4.2.2.2.2 trivial;have r0:=a6.cell 0;have r1:=a6.cell 1;have f0:=a6.free 0;have f1:=a6.free 1;have b0:=((((c6.2.2.2.2.2.2.trans b4.2.2.2.2).all:aa (fun b=>b<w.heap.size) w o7)).setCell (p:=⟨w.heap.size+1+1,0,none⟩) (.inl (by show¬(w.heap.size+1+1<w.heap.size);omega)) (.slice C c.Nd.length cp)).setCell (p:=⟨w.heap.size+1+1,1,none⟩) (.inl (by show¬(w.heap.size+1+1<w.heap.size);omega)) (.slice D k dp);have a7:=(a6.set 0 (.slice C c.Nd.length cp)).set 1 (.slice D k dp);have g0:=a7.cell 0;have g1:=a7.cell 1;simp only[ga,gc] at o0 o1 r0 r1 g0 g1;have HK:=oH b0;clear b0 a7 a6;go_wp2_with fail;refine bodyPost_ret (v:=.tuple #[.agg #[.slice C c.Nd.length cp,.slice D k dp],.bool false]) (by simp[results,Tryz.f158,go_sem,g0,g1]) rfl ⟨_,_,_,_,_,_,false,rfl,(au fun h=>?_).symm,dV HK.out,fun h=>?_⟩;·exact(HI.out ((h.2 b (mG HR.2.2.2.2.2)).2.2 l (mG c8.2.2.2.2.1) x (mG c6.2.2.2.2.1))).elim
 exact(HI.out ((h.2 b (mG HR.2.2.2.2.2)).2.2 l (mG c8.2.2.2.2.1) x (mG c6.2.2.2.2.1))).elim)
 obtain rfl:i=l.length:=by omega
 rw[oF (by rw[ce];omega)] at J;have n9:=J.read (bw:=120) nM (by rw[ce];omega);have b5:aa (fun b=>b≠w5.heap.size) wb wr:=H6.2.1.all.trans R;have h5:∀x∈l,dx p x:=fun x hx=>by obtain⟨i,hi⟩:=List.getElem?_of_mem hx;exact a1 i x (lS.1 hi).1 hi
 have o1:=(c8.2.1.kept b5 (by show _≠_;omega)).cl 2;have y0:=I.cl 0;have y1:=I.cl 1;have y2:=I.cl 2;obtain⟨W9,h6⟩:=eQ (wr.alloc (.cells #[.string (aL 98 (j:Int)),.slice E3 l.length ip,.int .i64 0] 135));have c9:=aC1 h6;have b9:=aA0 h6;have F6:=aD1 h6;have h7:xB wp.heap.size W9 (.slice E2 j bp) ((b.Ng.mapIdx (eh p c.main)).take j):=c8.2.2.1.keep lK (b5.trans c9.all) fun b Y l4=>by show b≠_;omega
 have C4:=(c8.2.1.kept b5 (by show _≠_;omega)).kept c9 trivial;have C5:qh (fun b=>w5.heap.size+1≤b∧b<wr.heap.size) W9 [.string (aL 98 (j:Int)),.slice E3 l.length ip,.int .i64 0] (eh p c.main j l):=Fa (it.keep c9.all (it.wide (fun b (Y:W6.heap.size≤b∧b<wr.heap.size)=>by have:=H6.2.2.2;omega) n9));have H9:=J8 h6 c9 b9 C4 h7 C5 b5 h5;clear h6 c9 b9 C4 h7 C5 b5 h5 a1 J n9 R I;go_wp2_with (
  at_builtin;go_loud (
  rw[←H9.1];refine bN (E:=qh) _ lK rfl (.tmp 130) (.tmp 132) 108 rfl iB _ 48 underlying108 IB.1 IB.2.1 IB.2.2.1 IB.2.2.2 rfl (by decide) _ _ rfl H9.2.2.2.2.1 wr.heap.size 0 1 rfl [.string (aL 98 (j:Int)),.slice E3 l.length ip,.int .i64 0] (eh p c.main j l) rfl ?_ ?_ (by rw[l7];omega) (by omega) ?_ (fun b=>w5.heap.size+1≤b∧b<wr.heap.size) ?_ ?_ ?_;·intro j u hu;rw[cN,H9.2.2.1.cell,List.getElem?_toArray];exact hu
  ·intro u hu;simp only[fX,List.not_mem_nil,or_false] at hu;rcases hu with rfl|rfl|rfl<;>rfl
  ·omega
  ·intro b Y;have C3:w5.heap.size+1≤b∧b<wr.heap.size:=Y;obtain⟨_,n8⟩:=c8.2.2.1.own;exact⟨by omega,by omega,fun e=>by have:=(aD n8 e).2;omega⟩
  ·exact H9.2.2.2.2.2.1
  intro D2 j3 w4 b8 b2 c5;have c7:=H9.2.2.2.1.grown b2 (fun e=>by have:=c5 _ e.symm;omega);have u1:=c7.cl 2;have v1:=c7.free 2;have H4:=J4 c7 b8 b2 c5;clear c7 b8 b2 c5))
 go_roundg (b.Ng.length-(j+1))
 ·refine⟨j+1,.slice D2 (j+1) j3,by omega,rfl,by go_num,yA ((((c8.1.mono fun b (Y:b≠w2.heap.size∧b<wp.heap.size)=>Y.1).trans ((H9.2.2.2.2.2.2.1.trans H9.2.1.all).mono fun b (Y:b≠w2.heap.size∧b<wp.heap.size)=>by show b≠_;omega)).grown H4.2.2.1 fun b Y=>.inr (by have:=H4.2.2.2 b Y;omega)).setCell (.inl fun h=>h.1 rfl) _),by simpa using H4.1.set 2 (.slice D2 (j+1) j3),?_,fun i x hi hx=>?_⟩
  ·rw[tO c8.2.2.2.2.1]
   have h3:=H4.2.1;rw[l7] at h3;exact h3.keep lK ((aa.refl (fun b=>b≠w2.heap.size) _).setCell (.inl fun h=>h rfl) _) fun b Y l4=>by show b≠_;omega
  by_cases e:i=j;·subst e;rw[c8.2.2.2.2.1] at hx;injection hx with hx;subst hx;exact H9.2.2.2.2.2.2.2
  exact c8.2.2.2.1 i x (by omega) hx
 omega)
 obtain rfl:j=b.Ng.length:=by omega
 rw[oF (by rw[List.length_mapIdx];omega)] at J;have n9:=J.read (bw:=48) lK (by rw[List.length_mapIdx];omega);have b5:aa (fun b=>b≠w2.heap.size) wf wr:=(H3.2.1.all.trans HX.1).trans (o5.1.trans R);have h5:lX p b:=⟨HB.1,HB.2.1,fun l hl=>by obtain⟨i,hi⟩:=List.getElem?_of_mem hl;exact a1 i l (lS.1 hi).1 hi⟩;have o1:=(HR.2.1.kept b5 (by show _≠_;omega)).cl 1;have y0:=I.cl 0;have y1:=I.cl 1;have y2:=I.cl 2;have y3:=I.cl 3;obtain⟨W9,h6⟩:=eQ (wr.alloc (.cells #[.string FN,.slice E1 pn ep,.slice E2 b.Ng.length bp,.int .i64 0] 110));have c9:=aC1 h6;have b9:=aA0 h6;have F6:=aD1 h6;have h7:BB wo.heap.size W9 (.slice D k dp) ((c.Nf.mapIdx (bU p c.main)).take k):=HR.2.2.1.keep nj (b5.trans c9.all) fun b Y l4=>by show b≠_;omega
 have C6:=(HR.2.1.kept b5 (by show _≠_;omega)).kept c9 trivial;have C7:uA (fun b=>w2.heap.size+1≤b∧b<wr.heap.size) W9 [.string FN,.slice E1 pn ep,.slice E2 b.Ng.length bp,.int .i64 0] (bU p c.main k b):=by refine Iu l6 (by rw[HB.2.2];exact ax.keep c9.all (ax.keep (R.mono fun b (Y:w2.heap.size+1≤b∧b<wr.heap.size)=>by show b≠_;omega) (ax.wide (fun b (Y:wc.heap.size≤b∧b<wp.heap.size)=>by omega) o5.2.2))) (eH.keep c9.all ?_);exact eH.wide (fun b (Y:wp.heap.size≤b∧b<wr.heap.size)=>by omega) n9
 have H9:=J8 h6 c9 b9 C6 h7 C7 b5 h5;clear h6 c9 b9 C6 h7 C7 b5 h5 a1 J n9 R I;go_wp2_with (
  at_builtin;go_loud (
  rw[←H9.1];refine bN (E:=uA) _ nj rfl (.tmp 137) (.tmp 139) 67 rfl iF _ 72 underlying67 IF.1 IF.2.1 IF.2.2.1 IF.2.2.2 rfl (by decide) _ _ rfl H9.2.2.2.2.1 wr.heap.size 0 1 rfl [.string FN,.slice E1 pn ep,.slice E2 b.Ng.length bp,.int .i64 0] (bU p c.main k b) rfl ?_ ?_ (by rw[j4];omega) (by omega) ?_ (fun b=>w2.heap.size+1≤b∧b<wr.heap.size) ?_ ?_ ?_;·intro j u hu;rw[cN,H9.2.2.1.cell,List.getElem?_toArray];exact hu
  ·intro u hu;simp only[fX,List.not_mem_nil,or_false] at hu;rcases hu with rfl|rfl|rfl|rfl<;>rfl
  ·omega
  ·intro b Y;have C3:w2.heap.size+1≤b∧b<wr.heap.size:=Y;obtain⟨_,n8⟩:=HR.2.2.1.own;exact⟨by omega,by omega,fun e=>by have:=(aD n8 e).2;omega⟩
  ·exact H9.2.2.2.2.2.1
  intro D2 j3 w4 b8 b2 c5;have c7:=H9.2.2.2.1.grown b2 (fun e=>by have:=c5 _ e.symm;omega);have u1:=c7.cl 1;have v1:=c7.free 1;have H4:=J4 c7 b8 b2 c5;clear c7 b8 b2 c5))
 go_roundg (c.Nf.length-(k+1))
 ·refine⟨k+1,.slice D2 (k+1) j3,by omega,rfl,by go_num,yA ((((HR.1.mono fun b (Y:b≠w.heap.size+1+1+1∧b<wo.heap.size)=>Y.1).trans ((H9.2.2.2.2.2.2.1.trans H9.2.1.all).mono fun b (Y:b≠w.heap.size+1+1+1∧b<wo.heap.size)=>by show b≠_;omega)).grown H4.2.2.1 fun b Y=>.inr (by have:=H4.2.2.2 b Y;omega)).setCell (.inl fun h=>h.1 rfl) _),by simpa using H4.1.set 1 (.slice D2 (k+1) j3),?_,fun i x hi hx=>?_⟩
  ·rw[tO HR.2.2.2.2.2]
   have h3:=H4.2.1;rw[j4] at h3;exact h3.keep nj ((aa.refl (fun b=>b≠w.heap.size+1+1+1) _).setCell (.inl fun h=>h rfl) _) fun b Y l4=>by show b≠_;omega
  by_cases e:i=k;·subst e;rw[HR.2.2.2.2.2] at hx;injection hx with hx;subst hx;exact H9.2.2.2.2.2.2.2
  exact HR.2.2.2.1 i x (by omega) hx
 omega)
 by_cases k7:b.params<0
 ·have t1:decide (b.params<0)=true:=by simp;omega
  have o0:=((HR.2.1.kept H3.2.1 trivial).kept HX.1 (by show _≠_;omega)).cell 0;have o1:=((HR.2.1.kept H3.2.1 trivial).kept HX.1 (by show _≠_;omega)).cell 1;have a6:=(((HW.2.2.2.2.kept HO.1 (by show _≠_;omega)).kept HR.1 (by show _≠_;omega)).kept H3.2.1 trivial).kept HX.1 (by show _≠_;omega);have r0:=a6.cell 0;have r1:=a6.cell 1;have f0:=a6.free 0;have f1:=a6.free 1;have b0:=((((HR.2.2.2.2.1.all.trans H3.2.1.all).trans (HX.1.mono fun b (Y:b<w.heap.size)=>by show b≠_;omega):aa (fun b=>b<w.heap.size) w wc)).setCell (p:=⟨w.heap.size+1+1,0,none⟩) (.inl (by show¬(w.heap.size+1+1<w.heap.size);omega)) (.slice C c.Nd.length cp)).setCell (p:=⟨w.heap.size+1+1,1,none⟩) (.inl (by show¬(w.heap.size+1+1<w.heap.size);omega)) (.slice D k dp);have a7:=(a6.set 0 (.slice C c.Nd.length cp)).set 1 (.slice D k dp);have g0:=a7.cell 0;have g1:=a7.cell 1;simp only[ga,gc] at o0 o1 r0 r1 g0 g1;have HK:=oH b0;clear b0 a7 a6;go_wp2_with fail;refine bodyPost_ret (v:=.tuple #[.agg #[.slice C c.Nd.length cp,.slice D k dp],.bool false]) (by simp[results,Tryz.f158,go_sem,g0,g1]) rfl ⟨_,_,_,_,_,_,false,rfl,(au fun h=>?_).symm,dV HK.out,fun h=>?_⟩
  ·have:=(h.2 b (mG HR.2.2.2.2.2)).1
   have:=(h.2 b (mG HR.2.2.2.2.2)).2.1;omega
  have:=(h.2 b (mG HR.2.2.2.2.2)).1;have:=(h.2 b (mG HR.2.2.2.2.2)).2.1;omega
 have t1:decide (b.params<0)=false:=by simp;omega
 have t2:decide ((6:Int)<b.params)=true:=by simp;omega
 have o0:=((HR.2.1.kept H3.2.1 trivial).kept HX.1 (by show _≠_;omega)).cell 0;have o1:=((HR.2.1.kept H3.2.1 trivial).kept HX.1 (by show _≠_;omega)).cell 1;have a6:=(((HW.2.2.2.2.kept HO.1 (by show _≠_;omega)).kept HR.1 (by show _≠_;omega)).kept H3.2.1 trivial).kept HX.1 (by show _≠_;omega);have r0:=a6.cell 0;have r1:=a6.cell 1;have f0:=a6.free 0;have f1:=a6.free 1;have b0:=((((HR.2.2.2.2.1.all.trans H3.2.1.all).trans (HX.1.mono fun b (Y:b<w.heap.size)=>by show b≠_;omega):aa (fun b=>b<w.heap.size) w wc)).setCell (p:=⟨w.heap.size+1+1,0,none⟩) (.inl (by show¬(w.heap.size+1+1<w.heap.size);omega)) (.slice C c.Nd.length cp)).setCell (p:=⟨w.heap.size+1+1,1,none⟩) (.inl (by show¬(w.heap.size+1+1<w.heap.size);omega)) (.slice D k dp);have a7:=(a6.set 0 (.slice C c.Nd.length cp)).set 1 (.slice D k dp);have g0:=a7.cell 0;have g1:=a7.cell 1;simp only[ga,gc] at o0 o1 r0 r1 g0 g1;have HK:=oH b0;clear b0 a7 a6;go_wp2_with fail;refine bodyPost_ret (v:=.tuple #[.agg #[.slice C c.Nd.length cp,.slice D k dp],.bool false]) (by simp[results,Tryz.f158,go_sem,g0,g1]) rfl ⟨_,_,_,_,_,_,false,rfl,(au fun h=>?_).symm,dV HK.out,fun h=>?_⟩
 ·have:=(h.2 b (mG HR.2.2.2.2.2)).1
  have:=(h.2 b (mG HR.2.2.2.2.2)).2.1;omega
 have:=(h.2 b (mG HR.2.2.2.2.2)).1;have:=(h.2 b (mG HR.2.2.2.2.2)).2.1;omega)
 obtain rfl:k=c.Nf.length:=by omega
 rw[oF (by rw[List.length_mapIdx];omega)] at J;have e9:∀b∈c.Nf,lX p b:=fun a ha=>by obtain⟨i,hi⟩:=List.getElem?_of_mem ha;exact a1 i a (lS.1 hi).1 hi
 have hF:=J.read (bw:=72) nj (by rw[List.length_mapIdx];omega);have o0:=I.cell 0;have o1:=I.cell 1;have a6:=(HW.2.2.2.2.kept HO.1 (by show _≠_;omega)).kept R (by show _≠_;omega);have r0:=a6.cell 0;have r1:=a6.cell 1;have f0:=a6.free 0;have f1:=a6.free 1;have b0:=(((HO.1.trans R).mono fun b (Y:b≠w.heap.size+1+1+1∧b≠w.heap.size+1+1)=>Y.1).setCell (p:=⟨w.heap.size+1+1,0,none⟩) (.inl fun h=>h.2 rfl) (.slice C c.Nd.length cp)).setCell (p:=⟨w.heap.size+1+1,1,none⟩) (.inl fun h=>h.2 rfl) (.slice D c.Nf.length dp);have l5:=((aa.refl (fun b=>w.heap.size+4≤b) wr).setCell (p:=⟨w.heap.size+1+1,0,none⟩) (.inl (by show¬(w.heap.size+4≤w.heap.size+1+1);omega)) (.slice C c.Nd.length cp)).setCell (p:=⟨w.heap.size+1+1,1,none⟩) (.inl (by show¬(w.heap.size+4≤w.heap.size+1+1);omega)) (.slice D c.Nf.length dp);have a7:=(a6.set 0 (.slice C c.Nd.length cp)).set 1 (.slice D c.Nf.length dp);have g0:=a7.cell 0;have g1:=a7.cell 1;simp only[ga,gc] at o0 o1 r0 r1 g0 g1;have HX:=J5 b0 l5 R hF e9;clear b0 l5 R hF e9 a1 J a7 I a6 h8 d1;go_wp2_with fail;refine bodyPost_ret (v:=.tuple #[.agg #[.slice C c.Nd.length cp,.slice D c.Nf.length dp],.bool true]) (by simp[results,Tryz.f158,go_sem,g0,g1]) rfl ⟨_,_,_,_,_,_,true,rfl,(av (P:=pi p c) ⟨HO.2.2.2.1,HX.2.2.2.2⟩).symm,dV (HW.2.2.1.all.trans (HX.1.mono fun b Y=>by constructor<;>(show b≠_)<;>omega)),fun _=>⟨_,_,rfl,?_,?_⟩⟩;·exact lJ.wide (fun b Y=>by have:w.heap.size+4≤b∧b<wo.heap.size:=Y;have:=HX.2.1.size;have:=HX.2.2.1.size;omega) (lJ.keep ((HX.2.2.1.mono fun b (Y:w.heap.size+4≤b∧b<wo.heap.size)=>by show b≠_;omega).trans (HX.2.1.mono fun b Y=>Y.1)) HO.2.2.1)
 exact iX.wide (fun b Y=>by have:wo.heap.size≤b∧b<wr.heap.size:=Y;have:=HX.2.1.size;have:=HX.2.2.1.size;omega) (iX.keep (HX.2.1.mono fun b (Y:wo.heap.size≤b∧b<wr.heap.size)=>by omega) HX.2.2.2.1)
end Go.Proofs.YtgdlhckhpolnnaaGreatDoor
