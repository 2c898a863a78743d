/- Part 45 of the proof of CallsTo (its last part says what is proved). No condition. -/
import Derived.Test.YtceloincoomjeaaGreatDoorK43
namespace Go.Proofs.YtceloincoomjeaaGreatDoor
set_option maxRecDepth 100000
set_option maxHeartbeats 8000000
open Go.RowKit Go.Proofs.Tryz
theorem vk:(prog.info? 4).map (fun i=>(i.zero,i.size,i.bytes))=some (some (.bool false),1,1):=by kernel_rfl
def gZ (l:List Bool):List Value:=l.map Value.bool
theorem uI {S:Nat→Prop}{w:World}{base:Nat}{e:TypeId}{v:Value}{n:Nat}{l:List Bool}(h:w.ownsRow base e 1 v n (gZ l))(j:n=l.length)(o:l.length*1≤140737488355328)(C:∀g,v.ownBlock=some g→S g):gD S w v l:=by subst j;exact Sl.of_own h o C (fun i x I=>⟨.bool x,by simp[gZ,I],rfl⟩)
theorem sv {d:Int}{l:List Int}{k:Nat}{x:Int}(h:l[k]? =some x):gZ (iq d (l.take (k+1)))=gZ (iq d (l.take k))++[.bool (decide (x<0)||decide (x≥d))]:=by rw[cU,h];simp[gZ,iq]
def rL (p:aH)(c:aE)(w:World)(e:Ending)(w':World):Prop:=
 ((bJ p c∧jH c)∧∃u,e=.returned (.tuple #[u,.int .i64 0])∧aa All w w'∧gD (fun b=>w.heap.size≤b) w' u (iq p.Nc (cZ (cG c) c.main.toNat)))∨(¬(bJ p c∧jH c)∧e=.returned (.tuple #[.slice none 0 0,.int .i64 1])∧aa All w w')
theorem pC (ll:List (List Int))(s:Nat):(cZ ll s).length=ll.length:=by simp[cZ]
theorem CH (S:Nat→Prop)(pv cv:Value)(p:aH)(c:aE)(w:World)(hp:dJ S w pv p)(hc:cQ S w cv c)(hl:gz w)(hS:∀b,S b→b<w.heap.size)(b5:kj p)(b6:lY c)(hN:eM p c↔bJ p c):
 Calls prog 8 #[pv,cv] w (rL p c w):=by
 obtain⟨i4,b7,b8,b9,c0⟩:=info_parts vk;have I4:=J4 b7 b8 b9 c0;clear b7 b8 b9 c0;have c6:=cB.la hp;have c7:=dc.la hc;obtain⟨i5,vu,vi,vo,rfl,e6,e7,e8,e9,c8⟩:=hp;obtain⟨a1,n1,rfl,_⟩:=e6;obtain⟨a2,n2,rfl,_⟩:=e7;obtain⟨a3,n3,rfl,_⟩:=e8;obtain⟨a4,n4,rfl,_⟩:=e9;obtain⟨ka,kf,rfl,h0,h4,h5⟩:=hc;obtain⟨A1,c1,rfl,_⟩:=h0;obtain⟨A2,c2,rfl,_⟩:=h4;obtain⟨W0,a7⟩:=eQ ((w.alloc (.cells #[.slice a1 p.MZ.length n1,.slice a2 p.up.length n2,.slice a3 p.Nb.length n3,.slice a4 p.Na.length n4,.int .i64 p.Nc] 26)).alloc (.cells #[.slice A1 c.Nd.length c1,.slice A2 c.Nf.length c2,.int .i64 c.main] 30));have Z:aa All w W0:=by rw[a7];exact(kR.alloc _).alloc _
 have bP:al W0 w.heap.size 26 #[.slice a1 p.MZ.length n1,.slice a2 p.up.length n2,.slice a3 p.Nb.length n3,.slice a4 p.Na.length n4,.int .i64 p.Nc]:=by rw[a7];exact(al.new _ _ _).alloc _
 have bK:al W0 (w.heap.size+1) 30 #[.slice A1 c.Nd.length c1,.slice A2 c.Nf.length c2,.int .i64 c.main]:=by rw[a7];exact ac (by simp)
 obtain⟨p0,p1,p2,p3,p4⟩:=bP.c5;obtain⟨k0,k1,k2⟩:=bK.c3;have HR:=oH (qT S _ _ p c W0 (c6 W0 Z) (c7 W0 Z) (hl.keep Z) (fun b hb=>by have:=hS b hb;have:=Z.size;omega) b5 b6 hN);have HW:=J4 a7 Z bP bK;have i6:=oH c8;clear a7 Z bP bK c6 c7 c8 h5 hN hl hS b5 b6;go_enter func8,ntmps8;go_upto_region 1 with fail;rw[←HW.1];go_wp2_with fail;refine HR.out.mono ?_;rintro e w1 (⟨C,u,rfl,a6,hu⟩|⟨C,rfl,a6⟩)
 case inr=>have HN:=J2 C a6;clear C a6 p0 p1 p2 p3 p4 k0 k1 k2;go_wp2_with fail;exact bodyPost_ret (v:=.tuple #[.slice none 0 0,.int .i64 1]) (by simp[results,Tryz.f8,go_sem]) rfl (.inr ⟨HN.1,rfl,HW.2.1.trans HN.2⟩)
 clear p0 p1 p2 p3 p4 k0 k1 k2;have h6:=C.1.2.2.2.1;have h7:=C.1.2.2.2.2.1;have h8:=C.1.2.2.1;obtain⟨s,hs⟩:∃s:Nat,c.main=s:=⟨c.main.toNat,by omega⟩;have h9:s<(cG c).length:=by rw[dT];omega
 have b3:=fun wn (hk:aa All w1 wn)=>qW _ u (cG c) s wn (aq.keep hk.all hu) (py (by omega) (by omega)) h9;have d7:(cZ (cG c) s).length≤64:=by rw[pC,dT];exact h8
 have d8:c.main.toNat=s:=by rw[hs];rfl
 have d9:=HW.2.2.2.kept a6 trivial;obtain⟨k0,k1,k2⟩:=d9.c3;rw[hs] at k2;have HE:=J5 b3 a6 C d8 hu;obtain⟨A9,c9,rfl,_⟩:=hu;clear b3 a6 C d9 d8 hs h6 h7;obtain⟨E,hE⟩:=eR (cZ (cG c) s);rw[hE] at d7 HE;have i0:=oH hE;clear hE;go_wp2_with fail;refine(HE.1 w1 kR).mono ?_;rintro e w2 ⟨u2,rfl,e0,e1⟩;have b4:=ah.la e1;obtain⟨A3,c3,rfl,q1,q2,q3,_⟩:=e1;unfold maxLen at q2;have e2:=HE.2.1.trans e0;have H2:=J2 b4 e2;clear b4 e0 e2 k0 k1 k2;go_wp2_with fail;go_loopg [8,25] E.length (fun gg s8 i1 wr=>∃k:Nat,k≤E.length∧gg=E.length-k∧i1=.int .i64 k∧aa All w2 wr∧wr.ownsRow w2.heap.size 4 1 s8 k (gZ (iq p.Nc (E.take k))));·exact⟨0,by omega,by omega,rfl,kR,rfl,.inl ⟨rfl,rfl⟩⟩
 obtain⟨k,hk,rfl,rfl,J,I⟩:=hrel;by_cases i2:k<E.length;·(
 obtain⟨n,hn⟩:=eG i2;obtain⟨eb,eo,ec,rfl,_,i7,rfl,_⟩:=bn (H2.1 wr J) hn;have e3:=HW.2.2.1.kept (H2.2.trans J) trivial;obtain⟨p0,p1,p2,p3,p4⟩:=e3.c5;clear p0 p1 p2 p3 e3;obtain⟨A4,c4,rfl⟩:=aU I;obtain⟨vb,R⟩:=eR ((decide (n<0)||decide (n≥p.Nc)));have Y:=sv (d:=p.Nc) hn;rw[R] at Y;have o:(wr.alloc (.cells #[.bool vb] 4)).ownsRow w2.heap.size 4 1 (.slice A4 k c4) k (gZ (iq p.Nc (E.take k))):=be I ((aa.refl All wr).alloc _) (fun _ _=>trivial);have j0:=J.size;have HK:=J2 J Y;clear J Y I hn;by_cases e4:n<0;·(
 have d0:decide (n<0)=true:=bL e4;rw[d0,Bool.true_or] at R;subst R;go_wp2_with (
  at_builtin;refine aR _ rfl (.tmp 29) (.tmp 38) 38 rfl w2.heap.size 4 i4 _ 1 1 underlying38 I4.1 I4.2.1 I4.2.2.1 I4.2.2.2 rfl (by decide) _ _ _ rfl o (some ⟨wr.heap.size,0,none⟩) 1 1 [.bool true] rfl rfl ?_ ?_ (by unfold maxLen;omega) (by omega) (by simp;omega) ?_;·intro _;exact⟨_,_,rfl,fun j u hu=>by rw[cN,al.cell (al.new _ _ _)];simpa using hu⟩
  ·intro u hu
   rw[cx.1 hu];rfl
  intro v2 w3 l a8 b0;obtain⟨A5,c5,rfl⟩:=aU l;have b1:aa All w2 w3:=(HK.1.alloc _).grown a8 fun g hg=>.inr (aD o hg).1;have b2:=J2 b1 l;clear l a8 b0 b1 o)
 go_roundg (E.length-(k+1));·exact⟨k+1,by omega,rfl,by go_num,b2.1,by rw[HK.2];exact b2.2⟩
 omega)
 have d0:decide (n<0)=false:=cI e4;rw[d0,Bool.false_or] at R;have d1:decide (p.Nc≤n)=vb:=R;have d2:decide (n≥p.Nc)=vb:=R;clear R;go_wp2_with (
  at_builtin;refine aR _ rfl (.tmp 29) (.tmp 38) 38 rfl w2.heap.size 4 i4 _ 1 1 underlying38 I4.1 I4.2.1 I4.2.2.1 I4.2.2.2 rfl (by decide) _ _ _ rfl o (some ⟨wr.heap.size,0,none⟩) 1 1 [.bool vb] rfl rfl ?_ ?_ (by unfold maxLen;omega) (by omega) (by simp;omega) ?_;·intro _;exact⟨_,_,rfl,fun j u hu=>by rw[cN,al.cell (al.new _ _ _)];simpa using hu⟩
  ·intro u hu
   rw[cx.1 hu];rfl
  intro v2 w3 l a8 b0;obtain⟨A5,c5,rfl⟩:=aU l;have b1:aa All w2 w3:=(HK.1.alloc _).grown a8 fun g hg=>.inr (aD o hg).1;have b2:=J2 b1 l;clear l a8 b0 b1 o)
 go_roundg (E.length-(k+1));·exact⟨k+1,by omega,rfl,by go_num,b2.1,by rw[HK.2];exact b2.2⟩
 omega)
 obtain rfl:k=E.length:=by omega
 have HT:=J2 J I;clear J I;have e5:(iq p.Nc E).length=E.length:=by simp[iq]
 obtain⟨A4,c4,rfl⟩:=aU HT.2;have hB:gD (fun b=>w.heap.size≤b) wr (.slice A4 E.length c4) (iq p.Nc (cZ (cG c) c.main.toNat)):=by rw[HE.2.2.2.1,i0.out];have h:=HT.2;rw[dZ] at h;refine uI h e5.symm (by omega) fun g hg=>?_;have h1:=(aD h hg).1;have h2:=HW.2.1.size;have h3:=H2.2.size;show w.heap.size≤g;omega
 have HB:=oH hB;clear hB e5;go_wp2_with fail;exact bodyPost_ret (v:=.tuple #[.slice A4 E.length c4,.int .i64 0]) (by simp[results,Tryz.f8,go_sem]) rfl (.inl ⟨HE.2.2.1,_,rfl,(HW.2.1.trans H2.2).trans HT.1,HB.out⟩)
def xD (lo:Nat)(l:List (List Int))(E:List Int)(t:Tmp)(v:Value)(wn:World):Prop:=if t=9 then Rows (fun b=>lo≤b) wn v l else aK (fun b=>lo≤b) wn v E
theorem xD.keep {lo:Nat}{l:List (List Int)}{E:List Int}{wn j:World}(o:aa All wn j)(t:Tmp){v:Value}(h:xD lo l E t v wn):xD lo l E t v j:=by
 unfold xD at h⊢;split;·rename_i e;rw[ap e] at h;exact aq.keep o.all h
 rename_i e;rw[ae e] at h;exact ah.keep o.all h
def BD (v:Value):Prop:=∃A n c,v=.slice A n c
theorem yY (S:Nat→Prop)(pv cv:Value)(p:aH)(c:aE)(w:World)(Z:dJ S w pv p)(hc:cQ S w cv c)(b7:bJ p c):
 Calls prog 11 #[pv,cv] w (fun e w'=>∃u,e=.returned u∧aa All w w'∧gD (fun b=>w.heap.size≤b) w' u (iq p.Nc (cZ (cG c) c.main.toNat))):=by
 obtain⟨i4,c8,c9,d7,d8⟩:=info_parts vk;have I4:=J4 c8 c9 d7 d8;clear c8 c9 d7 d8;have d9:=dc.la hc;obtain⟨j2,vu,vi,vo,rfl,h4,h5,h6,h7,h8⟩:=Z;obtain⟨a1,n1,rfl,_⟩:=h4;obtain⟨a2,n2,rfl,_⟩:=h5;obtain⟨a3,n3,rfl,_⟩:=h6;obtain⟨a4,n4,rfl,_⟩:=h7;obtain⟨ka,kf,rfl,i0,i1,i2⟩:=hc;obtain⟨A1,c1,rfl,_⟩:=i0;obtain⟨A2,c2,rfl,_⟩:=i1;obtain⟨W0,b1⟩:=eQ ((w.alloc (.cells #[.slice a1 p.MZ.length n1,.slice a2 p.up.length n2,.slice a3 p.Nb.length n3,.slice a4 p.Na.length n4,.int .i64 p.Nc] 26)).alloc (.cells #[.slice A1 c.Nd.length c1,.slice A2 c.Nf.length c2,.int .i64 c.main] 30));have c6:aa All w W0:=by rw[b1];exact(kR.alloc _).alloc _
 have bP:al W0 w.heap.size 26 #[.slice a1 p.MZ.length n1,.slice a2 p.up.length n2,.slice a3 p.Nb.length n3,.slice a4 p.Na.length n4,.int .i64 p.Nc]:=by rw[b1];exact(al.new _ _ _).alloc _
 have bK:al W0 (w.heap.size+1) 30 #[.slice A1 c.Nd.length c1,.slice A2 c.Nf.length c2,.int .i64 c.main]:=by rw[b1];exact ac (by simp)
 have i5:=b7.2.2.2.1;have i6:=b7.2.2.2.2.1;have i7:=b7.2.2.1;obtain⟨s,hs⟩:∃s:Nat,c.main=s:=⟨c.main.toNat,by omega⟩;have e0:s<(cG c).length:=by rw[dT];omega
 have e3:c.main.toNat=s:=by rw[hs];rfl
 rw[e3];have e4:(cZ (cG c) s).length≤64:=by rw[pC,dT];exact i7
 have b8:=oH (fun wn (l:aa All W0 wn)=>vP S _ c wn (d9 wn (c6.trans l)) (by omega));have b9:=oH (fun B wn u (hu:Rows B wn u (cG c))=>tC B u (cG c) s wn hu (py (by omega) (by omega)) e0);have HF:=oH (show∀wn,aa All W0 wn→wn.cell? ⟨w.heap.size,0,none⟩=some (.slice a1 p.MZ.length n1)∧wn.cell? ⟨w.heap.size,1,none⟩=some (.slice a2 p.up.length n2)∧wn.cell? ⟨w.heap.size,2,none⟩=some (.slice a3 p.Nb.length n3)∧wn.cell? ⟨w.heap.size,3,none⟩=some (.slice a4 p.Na.length n4)∧wn.cell? ⟨w.heap.size,4,none⟩=some (.int .i64 p.Nc)∧wn.cell? ⟨w.heap.size+1,0,none⟩=some (.slice A1 c.Nd.length c1)∧wn.cell? ⟨w.heap.size+1,1,none⟩=some (.slice A2 c.Nf.length c2)∧wn.cell? ⟨w.heap.size+1,2,none⟩=some (.int .i64 (s:Int)) from fun wn l=>⟨(bP.kept l trivial).cell 0,(bP.kept l trivial).cell 1,(bP.kept l trivial).cell 2,(bP.kept l trivial).cell 3,(bP.kept l trivial).cell 4,(bK.kept l trivial).cell 0,(bK.kept l trivial).cell 1,(by rw[←hs];exact(bK.kept l trivial).cell 2)⟩);have HW:=J4 b1 c6 bP bK;clear b1 c6 bP bK h8 i2 b7 d9 i5 i6 e0 e3;rw[hs] at HW b8⊢;clear hs;obtain⟨E,hE⟩:=eR (cZ (cG c) s);rw[hE] at e4 b9⊢;clear hE;go_enter func11,ntmps11;go_upto_region 1 with fail;rw[←HW.1];refine R1 5 W0 [9,12] (xD W0.heap.size (cG c) E) (fun i=>if i=1 then some BD else if i=4 then some BD else none) ?_;refine O4 HF.out ?_;refine O6 (fun wn l Z=>?_) (fun wn l Z=>?_) ?_;·go_simp;refine(b8.out wn l).mono ?_;rintro e wq ⟨u,rfl,R,hu⟩;have a6:=aq.wide (fun b (hb:wn.heap.size≤b)=>show W0.heap.size≤b by have:=l.size;omega) hu;obtain⟨A,cc,eu,_⟩:=id hu;exact .inl ⟨rfl,_,rfl,⟨_,_,_,eu⟩,l.trans R,fun t _ v h=>h.keep R t,fun d hd _=>by cases hd;exact a6⟩
 ·obtain⟨e,wq,_,⟨u,rfl,R,hu⟩,_⟩:=(b8.out wn l) []
  have a6:=aq.wide (fun b (hb:wn.heap.size≤b)=>show W0.heap.size≤b by have:=l.size;omega) hu;obtain⟨A,cc,eu,_⟩:=id hu;exact⟨_,wq,⟨_,_,_,eu⟩,l.trans R,fun t _ v h=>h.keep R t,fun d hd _=>by cases hd;exact a6⟩
 rintro v ⟨A3,m3,c3,rfl⟩;simp only[PS];refine O0 ?_;refine O4 HF.out ?_;refine O6 (fun wn l Z=>?_) (fun wn l Z=>?_) ?_;·have h9:=Z 9 (by decide) (by decide) _ rfl;go_simp;refine(b9.out _ wn _ h9).mono ?_;rintro e wq ⟨u,rfl,R,hu⟩;have a6:=ah.wide (fun b (hb:wn.heap.size≤b)=>show W0.heap.size≤b by have:=l.size;omega) hu;obtain⟨A,cc,eu,_⟩:=id hu;exact .inl ⟨rfl,_,rfl,⟨_,_,_,eu⟩,l.trans R,fun t _ v h=>h.keep R t,fun d hd _=>by cases hd;exact a6⟩
 ·have h9:=Z 9 (by decide) (by decide) _ rfl;obtain⟨e,wq,_,⟨u,rfl,R,hu⟩,_⟩:=(b9.out _ wn _ h9) [];have a6:=ah.wide (fun b (hb:wn.heap.size≤b)=>show W0.heap.size≤b by have:=l.size;omega) hu;obtain⟨A,cc,eu,_⟩:=id hu;exact⟨_,wq,⟨_,_,_,eu⟩,l.trans R,fun t _ v h=>h.keep R t,fun d hd _=>by cases hd;exact a6⟩
 rintro v ⟨A4,m4,c4,rfl⟩;simp only[PS];refine aG fun wt J hF=>?_;have c0:aK (fun b=>W0.heap.size≤b) wt (.slice A4 m4 c4) E:=hF 12 (by decide) _ rfl;simp only[dK];have HT:=J2 J (ah.la c0);obtain⟨A,cc,eu,q1,q2,q3,_⟩:=c0;cases eu;unfold maxLen at q2;clear J hF b8 b9;go_wp2_with fail;go_loopg [6,7] E.length (fun gg s6 s7 wr=>∃k:Nat,k≤E.length∧gg=E.length-k∧s7=.int .i64 k∧aa All wt wr∧wr.ownsRow wt.heap.size 4 1 s6 k (gZ (iq p.Nc (E.take k))));·exact⟨0,by omega,by omega,rfl,kR,rfl,.inl ⟨rfl,rfl⟩⟩
 obtain⟨k,l,rfl,rfl,a7,Y⟩:=hrel;by_cases j0:k<E.length;·(
 obtain⟨n,hn⟩:=eG j0;obtain⟨eb,eo,ec,rfl,_,e5,rfl,_⟩:=bn (HT.2 wr a7) hn;have e6:=fun wn (l:aa All wr wn)=>l.cell trivial e5;have e7:=fun wn (l:aa All wr wn)=>(HF.out wn ((HT.1.trans a7).trans l)).2.2.2.2.1;obtain⟨A7,c7,rfl⟩:=aU Y;obtain⟨vb,a8⟩:=eR ((decide (n<0)||decide (n≥p.Nc)));have b0:=sv (d:=p.Nc) hn;rw[a8] at b0;have j3:=a7.size;have HK:=J5 a7 b0 Y e6 e7;clear a7 b0 Y hn e6 e7 e5;by_cases e8:n<0;·(
 have d0:decide (n<0)=true:=bL e8;rw[d0,Bool.true_or] at a8;subst a8;go_wp2_with fail;refine R1 16 wr [34] (fun _ v wn=>∃g,v=.slice (some ⟨g,0,none⟩) 1 1∧wr.heap.size≤g∧al wn g 4 #[.bool true]) (fun i=>if i=15 then some (fun v=>∃g,v=.slice (some ⟨g,0,none⟩) 1 1) else none) ?_;iterate 4 refine O0 ?_
 refine O3 (fun wn l Z=>by(have e1:=HK.2.2.2.1 wn l;go_simp;with_reducible rfl)) ?_;iterate 2 refine O0 ?_
 iterate 7 refine O2 ?_
 refine O0 ?_;refine O6 (fun wn l Z=>?_) (fun wn l Z=>?_) ?_
 ·go_simp
  exact⟨rfl,⟨_,rfl⟩,l.alloc _,fun t _ v ⟨g,e,h1,h2⟩=>⟨g,e,h1,h2.alloc _⟩,fun d hd hT=>⟨_,rfl,l.size,al.new _ _ _⟩⟩
 ·exact⟨.slice (some ⟨wn.heap.size,0,none⟩) 1 1,wn.alloc (.cells #[.bool true] 4),⟨_,rfl⟩,l.alloc _,fun t _ v ⟨g,e,h1,h2⟩=>⟨g,e,h1,h2.alloc _⟩,fun d hd hT=>⟨_,rfl,l.size,al.new _ _ _⟩⟩
 rintro v ⟨g,rfl⟩;simp only[PS];refine aG fun w5 J hF=>?_;obtain⟨g',e,j1,b2⟩:=hF 34 (by simp) _ rfl;iterate 3 injection e with e
 subst e;simp only[dK];have o:=be HK.2.2.1 J (fun _ _=>trivial);have I:=b2.cell 0;have e9:=J.size;simp only[gc] at I;have H5:=J2 J I;clear J b2 hF d0;go_wp2_with (
  at_builtin;go_loud (
  refine aR _ rfl (.tmp 19) (.tmp 34) 38 rfl wt.heap.size 4 i4 _ 1 1 underlying38 I4.1 I4.2.1 I4.2.2.1 I4.2.2.2 rfl (by decide) _ _ _ rfl o (some ⟨g,0,none⟩) 1 1 [.bool true] rfl rfl ?_ ?_ (by unfold maxLen;omega) (by omega) (by omega) ?_;·(
 intro _;exact⟨_,_,rfl,fun j u hu=>by
  rcases j with _|j';·rw[cN,H5.2];exact hu
  simp at hu⟩)
  ·intro u hu
   rw[cx.1 hu];rfl
  intro v2 w3 C b3 b4;obtain⟨A5,c5,rfl⟩:=aU C;have b5:aa All wt w3:=(HK.1.trans H5.1).grown b3 fun g hg=>.inr (aD o hg).1;have b6:=J2 b5 C;clear C b3 b4 b5 o))
 go_roundg (E.length-(k+1));·exact⟨k+1,by omega,rfl,by go_num,b6.1,by rw[HK.2.1];exact b6.2⟩
 omega)
 have d0:decide (n<0)=false:=cI e8;rw[d0,Bool.false_or] at a8;have d1:decide (p.Nc≤n)=vb:=a8;have d2:decide (n≥p.Nc)=vb:=a8;clear a8;go_wp2_with fail;refine R1 16 wr [34] (fun _ v wn=>∃g,v=.slice (some ⟨g,0,none⟩) 1 1∧wr.heap.size≤g∧al wn g 4 #[.bool vb]) (fun i=>if i=15 then some (fun v=>∃g,v=.slice (some ⟨g,0,none⟩) 1 1) else none) ?_;iterate 4 refine O0 ?_
 refine O3 (fun wn l Z=>by(have e1:=HK.2.2.2.1 wn l;go_simp;with_reducible rfl)) ?_;iterate 5 refine O0 ?_
 refine O3 (fun wn l Z=>by(have e1:=HK.2.2.2.1 wn l;go_simp;with_reducible rfl)) ?_;refine O0 ?_;refine O3 (fun wn l Z=>by(have e2:=HK.2.2.2.2 wn l;go_simp;with_reducible rfl)) ?_;iterate 2 refine O0 ?_
 refine O6 (fun wn l Z=>?_) (fun wn l Z=>?_) ?_
 ·go_simp
  exact⟨rfl,⟨_,rfl⟩,l.alloc _,fun t _ v ⟨g,e,h1,h2⟩=>⟨g,e,h1,h2.alloc _⟩,fun d hd hT=>⟨_,rfl,l.size,al.new _ _ _⟩⟩
 ·exact⟨.slice (some ⟨wn.heap.size,0,none⟩) 1 1,wn.alloc (.cells #[.bool vb] 4),⟨_,rfl⟩,l.alloc _,fun t _ v ⟨g,e,h1,h2⟩=>⟨g,e,h1,h2.alloc _⟩,fun d hd hT=>⟨_,rfl,l.size,al.new _ _ _⟩⟩
 rintro v ⟨g,rfl⟩;simp only[PS];refine aG fun w5 J hF=>?_;obtain⟨g',e,j1,b2⟩:=hF 34 (by simp) _ rfl;iterate 3 injection e with e
 subst e;simp only[dK];have o:=be HK.2.2.1 J (fun _ _=>trivial);have I:=b2.cell 0;have e9:=J.size;simp only[gc] at I;have H5:=J2 J I;clear J b2 hF d0;go_wp2_with (
  at_builtin;go_loud (
  refine aR _ rfl (.tmp 19) (.tmp 34) 38 rfl wt.heap.size 4 i4 _ 1 1 underlying38 I4.1 I4.2.1 I4.2.2.1 I4.2.2.2 rfl (by decide) _ _ _ rfl o (some ⟨g,0,none⟩) 1 1 [.bool vb] rfl rfl ?_ ?_ (by unfold maxLen;omega) (by omega) (by omega) ?_;·(
 intro _;exact⟨_,_,rfl,fun j u hu=>by
  rcases j with _|j';·rw[cN,H5.2];exact hu
  simp at hu⟩)
  ·intro u hu
   rw[cx.1 hu];rfl
  intro v2 w3 C b3 b4;obtain⟨A5,c5,rfl⟩:=aU C;have b5:aa All wt w3:=(HK.1.trans H5.1).grown b3 fun g hg=>.inr (aD o hg).1;have b6:=J2 b5 C;clear C b3 b4 b5 o))
 go_roundg (E.length-(k+1));·exact⟨k+1,by omega,rfl,by go_num,b6.1,by rw[HK.2.1];exact b6.2⟩
 omega)
 obtain rfl:k=E.length:=by omega
 have HZ:=J2 a7 Y;clear a7 Y;have h0:(iq p.Nc E).length=E.length:=by simp[iq]
 obtain⟨A7,c7,rfl⟩:=aU HZ.2;have hB:gD (fun b=>w.heap.size≤b) wr (.slice A7 E.length c7) (iq p.Nc E):=by have h:=HZ.2;rw[dZ] at h;refine uI h h0.symm (by omega) fun g hg=>?_;have h1:=(aD h hg).1;have h2:=HW.2.1.size;have h3:=HT.1.size;show w.heap.size≤g;omega
 have HB:=oH hB;clear hB h0;go_wp2_with fail;go_ret;exact⟨_,rfl,(HW.2.1.trans HT.1).trans HZ.1,HB.out⟩
section
structure zG {α:Type}(E:cO α):Prop where
 any:∀ {S T:Nat→Prop} {w w':World} {cs:List Value} {x:α},E S w cs x→E T w' cs x
 one:∀ {S:Nat→Prop} {w:World} {cs:List Value} {x:α},E S w cs x→∀u∈cs,u.oneCell'=true
section
variable {α:Type} {n bw:Nat} {E:cO α}
theorem BT:∀(l:List (List Value)),(∀c∈l,c.length=n)→∀(j:Nat) u,l.flatten[j]? =some u→∃i r cs,l[i]? =some cs∧cs[r]? =some u∧j=i*n+r
 | [],_,j,u,h=>by simp at h
 |c::l,o,j,u,h=>by(
 rw[List.flatten_cons] at h;have Y:=o c (List.mem_cons_self ..);by_cases C:j<c.length
 ·rw[ma C] at h
  exact⟨0,j,c,rfl,h,by omega⟩
 rw[kH (by omega)] at h;obtain⟨i,r,cs,I,J,Z⟩:=BT l (fun d R=>o d (List.mem_cons_of_mem _ R)) _ u h;exact⟨i+1,r,cs,by simpa using I,J,by rw[Nat.succ_mul];omega⟩)
theorem xn {S:Nat→Prop}{w:World}{A:Option Addr}{m c:Nat}{l:List α}(h:rx n bw E S w (.slice A m c) l):m=l.length∧m≤maxLen∧l.length*bw≤140737488355328∧∃C:List (List Value),C.length=l.length∧(∀cs∈C,cs.length=n)∧(∀(i:Nat) x,l[i]? =some x→∃cs,C[i]? =some cs∧E S w cs x)∧
 (0<m→∃b off,A=some ⟨b,off,none⟩∧∀(j:Nat) u,C.flatten[j]? =some u→w.cell? ⟨b,off+j,none⟩=some u):=by
 obtain⟨a,cap,hv,h1,h2,h3,h⟩:=h;injection hv with e1 e2 e3;subst e1;subst e2;subst e3;have hc:∀i:Nat,∃cs:List Value,∀x,l[i]? =some x→cs.length=n∧E S w cs x∧∃b off,A=some ⟨b,off,none⟩∧∀(j:Nat) u,cs[j]? =some u→w.cell? ⟨b,off+i*n+j,none⟩=some u:=by(
 intro i;cases hi:l[i]? with
 |none=>exact⟨[],fun x Z=>by cases Z⟩
 |some x=>obtain⟨b,off,cs,ha,_,hl,o,hE⟩:=h i x hi;exact⟨cs,fun y hy=>by cases hy;exact⟨hl,hE,b,off,ha,o⟩⟩)
 obtain⟨f,J⟩:=Classical.axiomOfChoice hc;refine⟨rfl,by omega,h3,(List.range l.length).map f,by simp,fun cs I=>?_,fun i x Z=>?_,fun hp=>?_⟩
 ·obtain⟨i,hi,rfl⟩:=dr.1 I
  exact(J i _ (lG (fg.1 hi))).1
 ·have hi:=(lS.1 Z).1
  exact⟨f i,by rw[cL,ln hi];rfl,(J i x Z).2.1⟩
 obtain⟨b,off,ha,_⟩:=(J 0 _ (lG hp)).2.2;refine⟨b,off,ha,fun j u hu=>?_⟩;obtain⟨i,r,cs,h4,h5,rfl⟩:=BT _ (fun cs I=>by obtain⟨i,hi,rfl⟩:=dr.1 I;exact(J i _ (lG (fg.1 hi))).1) j u hu;rw[cL] at h4;obtain⟨k,hk,rfl⟩:=oE.1 h4;have R:i<l.length:=by have:=(lS.1 hk).1;simpa using this
 rw[ln R] at hk;cases hk;obtain⟨b',a1,Y,o⟩:=(J i _ (lG R)).2.2;rw[ha] at Y;cases Y;have:=o r u h5;rwa [Nat.add_assoc] at this
theorem rB {E:bT α}{S:Nat→Prop}{w:World}{v:Value}{l:List α}(h:Sl bw E S w v l):rx 1 bw (eT E) S w v l:=by
 obtain⟨a,cap,rfl,C,I,J,h⟩:=h;refine⟨a,cap,rfl,C,I,J,fun i x R=>?_⟩;obtain⟨b,off,u,e,Y,Z,hE⟩:=h i x R;exact⟨b,off,[u],e,Y,rfl,fun j c o=>by
  rcases j with _|j;·cases o;rw[Nat.mul_one,dj];exact Z
  simp at o,u,rfl,hE⟩
theorem gx {P:Program}(w:World){ops:Array Oper}{rest:List Oper}{o:Oper}{a:Act}{Q:Exit→Act→World→Prop}(g:zG E)(a6:o.guard=none)(s x:Operand)(t:TypeId)
 (ho:o.op=.call {callee:=.builtin .append,args:=#[s,x],argTypes:=#[t,t]})
 (e:TypeId) (i:TypeInfo) (z:Value) (ht:P.underlying t=some (.slice e)) (hi:P.info? e=some i) (hz:i.zero=some z)
 (C:i.size=n) (a7:i.bytes=bw) (a8:z.cells.size=n) (b0:0<n)
 (B J:Nat) (hs:a.eval s=.slice (some ⟨J,0,none⟩) 0 0) (hg:al w J e #[]) (hB:B≤J) {S:Nat→Prop} {A:Option Addr} {m c:Nat} {l:List α} (hx:a.eval x=.slice A m c) (b1:rx n bw E S w (.slice A m c) l)
 (h:∀A' c' R,rx n bw E (fun b=>B≤b∧b<R.heap.size) R (.slice A' l.length c') l→w.grownBy R (some J)→wpList P ops Q rest (a.put o.dst (.slice A' l.length c')) R):wpList P ops Q (o::rest) a w:=by
 obtain⟨hm,b6,Y,j,h1,h2,h3,h4⟩:=xn b1;have b2:j.flatten.length=m*n:=by
  have:∀L:List (List Value),(∀c∈L,c.length=n)→L.flatten.length=L.length*n:=by(
 intro L;induction L with
 |nil=>intro _;simp
 |cons c L ih=>intro hL;rw[List.flatten_cons,iQ,kI,Nat.succ_mul,ih fun d hd=>hL d (List.mem_cons_of_mem _ hd),hL c (List.mem_cons_self ..)];omega)
  rw[this j h2,h1,hm]
 have b3:∀u∈j.flatten,u.oneCell'=true:=by intro u hu;obtain⟨cs,b4,hu⟩:=List.mem_flatten.1 hu;obtain⟨k,hk⟩:=cY.1 b4;have b7:=(lS.1 hk).1;obtain⟨b8,Z,hE⟩:=h3 k _ (lG (by omega));rw[hk] at Z;cases Z;exact g.one hE u hu
 have a1:w.ownsRow B e n (.slice (some ⟨J,0,none⟩) 0 0) 0 []:=⟨by simp,.inr ⟨J,0,#[],rfl,hB,hg,cf _,Nat.zero_le _,by simp,by simp⟩⟩;have b9:=hg.lt;refine aR w a6 s x t ho B e i z n bw ht hi hz C a7 a8 b0 _ 0 [] hs a1 A m c j.flatten hx b2 h4 b3 (by omega) (by rw[cN,hm];exact Y) (by omega) fun v' R I b5 _=>?_;rw[cN,mF,hm] at I;obtain⟨A',c',rfl⟩:=aU I;refine h A' c' R (dR.read (E:=E) (B:=B) (e:=e) ?_ ?_ Y) b5;·exact⟨fun _ hh=>g.any hh,fun _ hh=>g.any hh⟩
 exact⟨j,fun _=>False,I,h1,h2,fun _ hh=>hh.elim,fun k y hy=>by obtain⟨cs,hc,hE⟩:=h3 k y hy;exact⟨cs,hc,g.any hE⟩⟩
end
theorem IL:zG (eT EQ):=⟨fun⟨v,e,h⟩=>⟨v,e,h⟩,fun⟨v,e,h⟩ u hu=>by subst e;rw[cx.1 hu,h];rfl⟩
theorem IM:zG (eT Cz):=⟨fun⟨v,e,h⟩=>⟨v,e,h⟩,fun⟨v,e,h⟩ u hu=>by subst e;rw[cx.1 hu,h];rfl⟩
theorem BR:zG (eT rQ):=⟨fun⟨v,e,h⟩=>⟨v,e,h⟩,fun⟨v,e,h⟩ u hu=>by subst e;rw[cx.1 hu,h.1];rfl⟩
theorem yl:zG uy:=⟨fun h=>h,fun h u hu=>by rw[h.1] at hu;simp only[fX,List.not_mem_nil,or_false] at hu;rcases hu with rfl|rfl<;>rfl⟩
theorem FF:zG rI:=⟨fun h=>h,fun h u hu=>by rw[h.1] at hu;simp only[fX,List.not_mem_nil,or_false] at hu;rcases hu with rfl|rfl<;>rfl⟩
end
theorem FW:(prog.info? 9).map (fun i=>(i.zero,i.size,i.bytes))=some (some (.string ⟨#[]⟩),1,16):=by kernel_rfl
theorem Jn:(prog.info? 138).map (fun i=>(i.zero,i.size,i.bytes))=some (some (.agg #[.string ⟨#[]⟩,.int .i64 0]),2,24):=by kernel_rfl
def Cx (p:aH)(w:World)(e:Ending)(w':World):Prop:=∃u,e=.returned u∧aa All w w'∧dJ (fun b=>w.heap.size≤b∧b<w'.heap.size) w' u p
theorem yR (S:Nat→Prop)(pv:Value)(p:aH)(w:World)(hp:dJ S w pv p):
 Calls prog 6 #[pv] w (Cx p w):=by
 obtain⟨iS,a6,a7,a8,b0⟩:=info_parts FW;have IS:=J4 a6 a7 a8 b0;clear a6 a7 a8 b0;obtain⟨iU,a6,a7,a8,b0⟩:=info_parts Km;have IU:=J4 a6 a7 a8 b0;clear a6 a7 a8 b0;obtain⟨iC,a6,a7,a8,b0⟩:=info_parts Jn;have IC:=J4 a6 a7 a8 b0;clear a6 a7 a8 b0;obtain⟨j9,vu,vi,vo,rfl,h8,h9,i0,i1,i2⟩:=hp;have b4:=fun wn (hk:aa All w wn)=>rB (ax.keep hk.all h8);have b5:=fun wn (hk:aa All w wn)=>rB (dU.keep hk.all h9);have b6:=aX.la i0;have b7:=aX.la i1;obtain⟨a1,n1,rfl,_⟩:=h8;obtain⟨a2,n2,rfl,_⟩:=h9;obtain⟨a3,n3,rfl,_⟩:=i0;obtain⟨a4,n4,rfl,_⟩:=i1;have HS:=J5 b4 b5 b6 b7 i2;clear b4 b5 b6 b7 i2;obtain⟨l,b2⟩:=eQ ((w.alloc (.cells #[.slice a1 p.MZ.length n1,.slice a2 p.up.length n2,.slice a3 p.Nb.length n3,.slice a4 p.Na.length n4,.int .i64 p.Nc] 26)).alloc (.cells #[.slice none 0 0,.slice none 0 0,.slice none 0 0,.slice none 0 0,.int .i64 0] 26));have j4:w.heap.size+2≤l.heap.size:=by rw[b2];simp
 have i4:aa All w l:=by rw[b2];exact(kR.alloc _).alloc _
 have i5:al l w.heap.size 26 #[.slice a1 p.MZ.length n1,.slice a2 p.up.length n2,.slice a3 p.Nb.length n3,.slice a4 p.Na.length n4,.int .i64 p.Nc]:=by rw[b2];exact(al.new _ _ _).alloc _
 have i6:al l (w.heap.size+1) 26 #[.slice none 0 0,.slice none 0 0,.slice none 0 0,.slice none 0 0,.int .i64 0]:=by rw[b2];exact ac (by simp)
 have HW:=oH b2;have H0:=J3 i4 i5 i6;clear b2 i4 i5 i6;go_enter func6,ntmps6;go_upto_region 1 with fail;rw[←HW.out];obtain⟨X0,b8⟩:∃X,X=l.alloc (.cells #[] 9):=⟨_,rfl⟩;have R:aa All l X0:=by rw[b8];exact kR.alloc _
 have bX:al X0 l.heap.size 9 #[]:=by rw[b8];exact ac rfl
 have h2:l.heap.size+1≤X0.heap.size:=by rw[b8];simp
 have y:=(H0.2.1.alloc (.cells #[] 9)).cell 0;simp only[gc] at y;have b9:=J3 b8 R bX;clear b8 R bX
 go_upto_region 2 with (at_builtin
                        go_loud (rw[←b9.1];refine gx (E:=(eT EQ)) X0 IL rfl (.tmp 3) (.tmp 5) 22 rfl 9 iS _ underlying22 IS.1 IS.2.1 IS.2.2.1 IS.2.2.2 rfl (by decide) l.heap.size l.heap.size rfl b9.2.2 (cf _) rfl (HS.1 X0 (H0.1.trans b9.2.1)) ?_;intro C0 e0 v0 b4 i7;have C:aa (fun b=>b≠l.heap.size) X0 v0:=kR.grown i7 fun b j=>.inl fun h=>h (by injection j with j;exact j.symm);have Z:=(H0.2.1.kept b9.2.1 trivial).kept C (by show _≠_;omega);have f:=Z.free 0;have y2:=Z.cell 0;simp only[gc] at y2;have h3:=J3 b4 C Z;clear b4 i7 C Z))
 have I:=h3.2.2.set 0 (.slice C0 p.MZ.length e0);have o:=(aa.refl (fun b=>b≠w.heap.size) v0).setCell (p:=⟨w.heap.size,0,none⟩) (.inl fun h=>h rfl) (.slice C0 p.MZ.length e0);simp only[ga] at I;have e7:=J2 I o;clear I o y f y2;generalize v0.setCell _ _=W1 at*;have c5:aa (fun b=>b<l.heap.size∧b≠w.heap.size) l W1:=(b9.2.1.all.trans (h3.2.1.mono fun b j=>by show b≠_;omega)).trans (e7.2.mono fun b j=>j.2);have e8:aa (fun b=>b≠w.heap.size) l W1:=⟨c5.os,c5.output,c5.size,fun k hk j=>c5.block k hk ⟨hk,j⟩⟩;have j5:l.heap.size≤W1.heap.size:=e8.size;have H1:=J4 (am (H0.1.all.trans (e8.mono fun b j=>by show b≠_;omega))) (e7.1) (H0.2.2.kept e8 (by show _≠_;omega)) (bT.Good.wide (cH (aS iu)) (fun b (j:l.heap.size≤b∧b<v0.heap.size)=>show l.heap.size≤b∧b<W1.heap.size by have:=e7.2.size;omega) (bT.Good.keep (cH (aS iu)) (e7.2.mono fun b (j:l.heap.size≤b∧b<v0.heap.size)=>by show b≠_;omega) h3.1));clear c5 e8;obtain⟨X1,c6⟩:∃X,X=W1.alloc (.cells #[] 180):=⟨_,rfl⟩;have R:aa All W1 X1:=by rw[c6];exact kR.alloc _
 have bX:al X1 W1.heap.size 180 #[]:=by rw[c6];exact ac rfl
 have h2:W1.heap.size+1≤X1.heap.size:=by rw[c6];simp
 have y:=(H1.2.1.alloc (.cells #[] 180)).cell 1;simp only[gc] at y;have c7:=J3 c6 R bX;clear c6 R bX
 go_upto_region 3 with (at_builtin
                        go_loud (rw[←c7.1];refine gx (E:=(eT Cz)) X1 IM rfl (.tmp 8) (.tmp 10) 23 rfl 180 iU _ underlying23 IU.1 IU.2.1 IU.2.2.1 IU.2.2.2 rfl (by decide) W1.heap.size W1.heap.size rfl c7.2.2 (cf _) rfl (HS.2.1 X1 (H1.1.trans c7.2.1)) ?_;intro C1 e1 v1 b5 j0;have C:aa (fun b=>b≠W1.heap.size) X1 v1:=kR.grown j0 fun b j=>.inl fun h=>h (by injection j with j;exact j.symm);have Z:=(H1.2.1.kept c7.2.1 trivial).kept C (by show _≠_;omega);have f:=Z.free 1;have y2:=Z.cell 1;simp only[gc] at y2;have h4:=J3 b5 C Z;clear b5 j0 C Z))
 have I:=h4.2.2.set 1 (.slice C1 p.up.length e1);have o:=(aa.refl (fun b=>b≠w.heap.size) v1).setCell (p:=⟨w.heap.size,1,none⟩) (.inl fun h=>h rfl) (.slice C1 p.up.length e1);simp only[ga] at I;have e9:=J2 I o;clear I o y f y2;generalize v1.setCell _ _=Y at*;have c8:aa (fun b=>b<W1.heap.size∧b≠w.heap.size) W1 Y:=(c7.2.1.all.trans (h4.2.1.mono fun b j=>by show b≠_;omega)).trans (e9.2.mono fun b j=>j.2);have c9:aa (fun b=>b≠w.heap.size) W1 Y:=⟨c8.os,c8.output,c8.size,fun k hk j=>c8.block k hk ⟨hk,j⟩⟩;have j6:W1.heap.size≤Y.heap.size:=c9.size;have H2:=J5 (am (H1.1.all.trans (c9.mono fun b j=>by show b≠_;omega))) (e9.1) (H1.2.2.1.kept c9 (by show _≠_;omega)) ((bT.Good.wide (cH (aS iu)) (fun b (j:l.heap.size≤b∧b<W1.heap.size)=>show l.heap.size≤b∧b<Y.heap.size by omega) (bT.Good.keep (cH (aS iu)) (c9.mono fun b (j:l.heap.size≤b∧b<W1.heap.size)=>by show b≠_;omega) H1.2.2.2))) (bT.Good.wide (cH (aS jO)) (fun b (j:W1.heap.size≤b∧b<v1.heap.size)=>show l.heap.size≤b∧b<Y.heap.size by have:=e9.2.size;omega) (bT.Good.keep (cH (aS jO)) (e9.2.mono fun b (j:W1.heap.size≤b∧b<v1.heap.size)=>by show b≠_;omega) h4.1));clear c8 c9;obtain⟨X2,d7⟩:∃X,X=Y.alloc (.cells #[] 138):=⟨_,rfl⟩;have R:aa All Y X2:=by rw[d7];exact kR.alloc _
 have bX:al X2 Y.heap.size 138 #[]:=by rw[d7];exact ac rfl
 have h2:Y.heap.size+1≤X2.heap.size:=by rw[d7];simp
 have y:=(H2.2.1.alloc (.cells #[] 138)).cell 2;simp only[gc] at y;have d8:=J3 d7 R bX;clear d7 R bX
 go_upto_region 4 with (at_builtin
                        go_loud (rw[←d8.1];refine gx (E:=uy) X2 yl rfl (.tmp 13) (.tmp 15) 24 rfl 138 iC _ underlying24 IC.1 IC.2.1 IC.2.2.1 IC.2.2.2 rfl (by decide) Y.heap.size Y.heap.size rfl d8.2.2 (cf _) rfl (HS.2.2.1 X2 (H2.1.trans d8.2.1)) ?_;intro C2 e2 v2 b6 j1;have C:aa (fun b=>b≠Y.heap.size) X2 v2:=kR.grown j1 fun b j=>.inl fun h=>h (by injection j with j;exact j.symm);have Z:=(H2.2.1.kept d8.2.1 trivial).kept C (by show _≠_;omega);have f:=Z.free 2;have y2:=Z.cell 2;simp only[gc] at y2;have h5:=J3 b6 C Z;clear b6 j1 C Z))
 have I:=h5.2.2.set 2 (.slice C2 p.Nb.length e2);have o:=(aa.refl (fun b=>b≠w.heap.size) v2).setCell (p:=⟨w.heap.size,2,none⟩) (.inl fun h=>h rfl) (.slice C2 p.Nb.length e2);simp only[ga] at I;have h0:=J2 I o;clear I o y f y2;generalize v2.setCell _ _=J at*;have d9:aa (fun b=>b<Y.heap.size∧b≠w.heap.size) Y J:=(d8.2.1.all.trans (h5.2.1.mono fun b j=>by show b≠_;omega)).trans (h0.2.mono fun b j=>j.2);have b3:aa (fun b=>b≠w.heap.size) Y J:=⟨d9.os,d9.output,d9.size,fun k hk j=>d9.block k hk ⟨hk,j⟩⟩;have j7:Y.heap.size≤J.heap.size:=b3.size;have H3:=J6 (am (H2.1.all.trans (b3.mono fun b j=>by show b≠_;omega))) (h0.1) (H2.2.2.1.kept b3 (by show _≠_;omega)) ((bT.Good.wide (cH (aS iu)) (fun b (j:l.heap.size≤b∧b<Y.heap.size)=>show l.heap.size≤b∧b<J.heap.size by omega) (bT.Good.keep (cH (aS iu)) (b3.mono fun b (j:l.heap.size≤b∧b<Y.heap.size)=>by show b≠_;omega) H2.2.2.2.1))) ((bT.Good.wide (cH (aS jO)) (fun b (j:l.heap.size≤b∧b<Y.heap.size)=>show l.heap.size≤b∧b<J.heap.size by omega) (bT.Good.keep (cH (aS jO)) (b3.mono fun b (j:l.heap.size≤b∧b<Y.heap.size)=>by show b≠_;omega) H2.2.2.2.2))) (bT.Good.wide aX (fun b (j:Y.heap.size≤b∧b<v2.heap.size)=>show l.heap.size≤b∧b<J.heap.size by have:=h0.2.size;omega) (bT.Good.keep aX (h0.2.mono fun b (j:Y.heap.size≤b∧b<v2.heap.size)=>by show b≠_;omega) h5.1));clear d9 b3;obtain⟨X3,e4⟩:∃X,X=J.alloc (.cells #[] 138):=⟨_,rfl⟩;have R:aa All J X3:=by rw[e4];exact kR.alloc _
 have bX:al X3 J.heap.size 138 #[]:=by rw[e4];exact ac rfl
 have h2:J.heap.size+1≤X3.heap.size:=by rw[e4];simp
 have y:=(H3.2.1.alloc (.cells #[] 138)).cell 3;simp only[gc] at y;have e5:=J3 e4 R bX;clear e4 R bX
 go_upto_region 5 with (at_builtin
                        go_loud (rw[←e5.1];refine gx (E:=uy) X3 yl rfl (.tmp 18) (.tmp 20) 24 rfl 138 iC _ underlying24 IC.1 IC.2.1 IC.2.2.1 IC.2.2.2 rfl (by decide) J.heap.size J.heap.size rfl e5.2.2 (cf _) rfl (HS.2.2.2.1 X3 (H3.1.trans e5.2.1)) ?_;intro C3 e3 v3 b7 j2;have C:aa (fun b=>b≠J.heap.size) X3 v3:=kR.grown j2 fun b j=>.inl fun h=>h (by injection j with j;exact j.symm);have Z:=(H3.2.1.kept e5.2.1 trivial).kept C (by show _≠_;omega);have f:=Z.free 3;have y2:=Z.cell 3;simp only[gc] at y2;have h6:=J3 b7 C Z;clear b7 j2 C Z))
 have I:=h6.2.2.set 3 (.slice C3 p.Na.length e3);have o:=(aa.refl (fun b=>b≠w.heap.size) v3).setCell (p:=⟨w.heap.size,3,none⟩) (.inl fun h=>h rfl) (.slice C3 p.Na.length e3);simp only[ga] at I;have h1:=J2 I o;clear I o y f y2;generalize v3.setCell _ _=W4 at*;have e6:aa (fun b=>b<J.heap.size∧b≠w.heap.size) J W4:=(e5.2.1.all.trans (h6.2.1.mono fun b j=>by show b≠_;omega)).trans (h1.2.mono fun b j=>j.2);have b1:aa (fun b=>b≠w.heap.size) J W4:=⟨e6.os,e6.output,e6.size,fun k hk j=>e6.block k hk ⟨hk,j⟩⟩;have j8:J.heap.size≤W4.heap.size:=b1.size;have H4:=J7 (am (H3.1.all.trans (b1.mono fun b j=>by show b≠_;omega))) (h1.1) (H3.2.2.1.kept b1 (by show _≠_;omega)) ((bT.Good.wide (cH (aS iu)) (fun b (j:l.heap.size≤b∧b<J.heap.size)=>show l.heap.size≤b∧b<W4.heap.size by omega) (bT.Good.keep (cH (aS iu)) (b1.mono fun b (j:l.heap.size≤b∧b<J.heap.size)=>by show b≠_;omega) H3.2.2.2.1))) ((bT.Good.wide (cH (aS jO)) (fun b (j:l.heap.size≤b∧b<J.heap.size)=>show l.heap.size≤b∧b<W4.heap.size by omega) (bT.Good.keep (cH (aS jO)) (b1.mono fun b (j:l.heap.size≤b∧b<J.heap.size)=>by show b≠_;omega) H3.2.2.2.2.1))) ((bT.Good.wide aX (fun b (j:l.heap.size≤b∧b<J.heap.size)=>show l.heap.size≤b∧b<W4.heap.size by omega) (bT.Good.keep aX (b1.mono fun b (j:l.heap.size≤b∧b<J.heap.size)=>by show b≠_;omega) H3.2.2.2.2.2))) (bT.Good.wide aX (fun b (j:J.heap.size≤b∧b<v3.heap.size)=>show l.heap.size≤b∧b<W4.heap.size by have:=h1.2.size;omega) (bT.Good.keep aX (h1.2.mono fun b (j:J.heap.size≤b∧b<v3.heap.size)=>by show b≠_;omega) h6.1));clear e6 b1;obtain⟨p0,p1,p2,p3,p4⟩:=H4.2.1.c5;obtain⟨z0,z1,z2,z3,z4⟩:=H4.2.2.1.c5;have f0:=H4.2.2.1.free 0;have f1:=H4.2.2.1.free 1;have f2:=H4.2.2.1.free 2;have f3:=H4.2.2.1.free 3;have f4:=H4.2.2.1.free 4;have h7:=(((((H4.2.2.1.set 0 (.slice C0 p.MZ.length e0)).set 1 (.slice C1 p.up.length e1)).set 2 (.slice C2 p.Nb.length e2)).set 3 (.slice C3 p.Na.length e3)).set 4 (.int .i64 p.Nc));have j3:=((((((aa.refl (fun b=>b≠w.heap.size+1) W4).setCell (p:=⟨w.heap.size+1,0,none⟩) (.inl fun h=>h rfl) (.slice C0 p.MZ.length e0)).setCell (p:=⟨w.heap.size+1,1,none⟩) (.inl fun h=>h rfl) (.slice C1 p.up.length e1)).setCell (p:=⟨w.heap.size+1,2,none⟩) (.inl fun h=>h rfl) (.slice C2 p.Nb.length e2)).setCell (p:=⟨w.heap.size+1,3,none⟩) (.inl fun h=>h rfl) (.slice C3 p.Na.length e3)).setCell (p:=⟨w.heap.size+1,4,none⟩) (.inl fun h=>h rfl) (.int .i64 p.Nc));simp only[ga] at h7;obtain⟨c0,c1,c2,c3,c4⟩:=h7.c5;have HF:=oH j3;clear h7 j3;go_wp2_with fail;generalize ((((W4.setCell _ _).setCell _ _).setCell _ _).setCell _ _).setCell _ _=WF at*;have k0:=HF.out.size;refine bodyPost_ret (v:=.agg #[.slice C0 p.MZ.length e0,.slice C1 p.up.length e1,.slice C2 p.Nb.length e2,.slice C3 p.Na.length e3,.int .i64 p.Nc]) (by simp[results,Tryz.f6,go_sem,c0,c1,c2,c3,c4]) rfl ⟨_,rfl,am (H4.1.all.trans (HF.out.mono fun b j=>by show b≠_;omega)),_,_,_,_,rfl,?_,?_,?_,?_,HS.2.2.2.2⟩;·exact jT (bT.Good.wide (cH (aS iu)) (fun b (j:l.heap.size≤b∧b<W4.heap.size)=>show w.heap.size≤b∧b<WF.heap.size by omega) (bT.Good.keep (cH (aS iu)) (HF.out.mono fun b (j:l.heap.size≤b∧b<W4.heap.size)=>by show b≠_;omega) H4.2.2.2.1))
 ·exact jT (bT.Good.wide (cH (aS jO)) (fun b (j:l.heap.size≤b∧b<W4.heap.size)=>show w.heap.size≤b∧b<WF.heap.size by omega) (bT.Good.keep (cH (aS jO)) (HF.out.mono fun b (j:l.heap.size≤b∧b<W4.heap.size)=>by show b≠_;omega) H4.2.2.2.2.1))
 ·exact(bT.Good.wide aX (fun b (j:l.heap.size≤b∧b<W4.heap.size)=>show w.heap.size≤b∧b<WF.heap.size by omega) (bT.Good.keep aX (HF.out.mono fun b (j:l.heap.size≤b∧b<W4.heap.size)=>by show b≠_;omega) H4.2.2.2.2.2.1))
 exact(bT.Good.wide aX (fun b (j:l.heap.size≤b∧b<W4.heap.size)=>show w.heap.size≤b∧b<WF.heap.size by omega) (bT.Good.keep aX (HF.out.mono fun b (j:l.heap.size≤b∧b<W4.heap.size)=>by show b≠_;omega) H4.2.2.2.2.2.2))
end Go.Proofs.YtceloincoomjeaaGreatDoor
