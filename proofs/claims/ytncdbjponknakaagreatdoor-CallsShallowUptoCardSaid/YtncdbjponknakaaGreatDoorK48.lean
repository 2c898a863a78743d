/- Part 49 of the proof of CallsShallow (its last part says what is proved). No condition. -/
import Derived.Test.YtncdbjponknakaaGreatDoorK46
import Derived.Test.YtncdbjponknakaaGreatDoorK47
namespace Go.Proofs.YtncdbjponknakaaGreatDoor
set_option maxRecDepth 100000
set_option maxHeartbeats 8000000
open Go.RowKit Go.Proofs.Tryz
theorem lN {w:World}{g n:Nat}{l:List Int}(h:al w g 3 (aI l).toArray)(o:n=l.length)(C:l.length≤1000)(hw:∀x∈l,(Lit.int .i64 x).wf=true):aK All w (.slice (some ⟨g,0,none⟩) n n) l:=by subst o;refine Sl.of_blk h trivial (cf _) (by unfold maxLen;omega) (by omega) fun i x j=>⟨.int .i64 x,?_,rfl,hw x (mG j)⟩;simp[aI,j]
theorem zi {w:World}{g n:Nat}{cs:List Value}{ll:List (List Int)}(h:al w g 45 cs.toArray)(j:n=ll.length)(J:ll.length≤1000)(hw:∀(i:Nat) x,ll[i]? =some x→∃c,cs[i]? =some c∧aK All w c x):Rows All w (.slice (some ⟨g,0,none⟩) n n) ll:=by subst j;refine Sl.of_blk h trivial (cf _) (by unfold maxLen;omega) (by omega) fun i x l=>?_;obtain⟨c,o,C⟩:=hw i x l;exact⟨c,by simpa using o,C⟩
abbrev LQ (w:World):World:=((w.alloc (.cells #[.int .i64 1,.int .i64 2] 3)).alloc (.cells #[.int .i64 2] 3)).alloc (.cells #[.slice (some ⟨w.heap.size,0,none⟩) 2 2,.slice (some ⟨w.heap.size+1,0,none⟩) 1 1,.slice none 0 0] 45)
theorem BP (w:World):Rows All (LQ w) (.slice (some ⟨w.heap.size+1+1,0,none⟩) 3 3) pe:=by
 have l:al (LQ w) w.heap.size 3 (aI [1,2]).toArray:=((al.new _ _ _).alloc _).alloc _;have o:al (LQ w) (w.heap.size+1) 3 (aI [2]).toArray:=(ac (by simp)).alloc _;have C:al (LQ w) (w.heap.size+1+1) 45 [Value.slice (some ⟨w.heap.size,0,none⟩) 2 2,.slice (some ⟨w.heap.size+1,0,none⟩) 1 1,.slice none 0 0].toArray:=ac (by simp);refine zi C rfl (by decide) fun i x j=>?_
 match i,j with
 |0,j=>cases j;exact⟨_,rfl,lN l rfl (by decide) (by decide)⟩
 |1,j=>cases j;exact⟨_,rfl,lN o rfl (by decide) (by decide)⟩
 |2,j=>cases j;exact⟨_,rfl,Sl.nil⟩
abbrev Ad (w:World):World:=(((w.alloc (.cells #[.int .i64 2] 3)).alloc (.cells #[.int .i64 1] 3)).alloc (.cells #[.int .i64 0] 3)).alloc (.cells #[.slice (some ⟨w.heap.size,0,none⟩) 1 1,.slice (some ⟨w.heap.size+1,0,none⟩) 1 1,.slice (some ⟨w.heap.size+1+1,0,none⟩) 1 1] 45)
theorem FE (w:World):Rows All (Ad w) (.slice (some ⟨w.heap.size+1+1+1,0,none⟩) 3 3) [[2],[1],[0]]:=by
 have l:al (Ad w) w.heap.size 3 (aI [2]).toArray:=(((al.new _ _ _).alloc _).alloc _).alloc _;have o:al (Ad w) (w.heap.size+1) 3 (aI [1]).toArray:=((ac (by simp)).alloc _).alloc _;have C:al (Ad w) (w.heap.size+1+1) 3 (aI [0]).toArray:=(ac (by simp)).alloc _;have J:al (Ad w) (w.heap.size+1+1+1) 45 [Value.slice (some ⟨w.heap.size,0,none⟩) 1 1,.slice (some ⟨w.heap.size+1,0,none⟩) 1 1,.slice (some ⟨w.heap.size+1+1,0,none⟩) 1 1].toArray:=ac (by simp);refine zi J rfl (by decide) fun i x j=>?_
 match i,j with
 |0,j=>cases j;exact⟨_,rfl,lN l rfl (by decide) (by decide)⟩
 |1,j=>cases j;exact⟨_,rfl,lN o rfl (by decide) (by decide)⟩
 |2,j=>cases j;exact⟨_,rfl,lN C rfl (by decide) (by decide)⟩
theorem uF (w:World):Calls prog 6 #[] w fun e w'=>e=.returned (.bool true)∧aa All w w':=by go_enter func6,ntmps6;go_wp2_with fail;refine(Am All _ pe (LQ w) (BP w) yi).mono ?_;rintro e w1 ⟨u,rfl,R,o⟩;rw[CU] at o;have a1:aa All w (LQ w):=(((aa.refl _ w).alloc _).alloc _).alloc _;have j:=aq.keep R.all (BP w);have a6:=o;obtain⟨Au,cu,rfl,_⟩:=a6;have H1:=J3 (a1.trans R) j o;clear R o a1 j;go_wp2_with fail;have C:aa All w1 (Ad w1):=((((aa.refl _ w1).alloc _).alloc _).alloc _).alloc _;refine(zp _ _ _ _ _ _ (Ad w1) (aq.keep C.all H1.2.2) (FE w1)).mono ?_;rintro e w2 ⟨rfl,Y⟩;have H2:=J2 (H1.1.trans (C.trans Y)) (aq.keep (C.trans Y).all H1.2.1);clear C Y;have hd:decide ([[2],[1],[0]]=([[2],[1],[0]]:List (List Int)))=true:=rfl;rw[hd];go_wp2_with fail;refine(qW All _ pe 0 w2 H2.2 yi (by decide)).mono ?_;rintro e w3 ⟨u3,rfl,a7,J⟩;rw[Af] at J;have a8:=J;obtain⟨b2,b3,rfl,_⟩:=a8;have H3:=J2 (H2.1.trans a7) J;clear a7 J;go_wp2_with fail;have Z:aa All w3 (w3.alloc (.cells #[.int .i64 1,.int .i64 2,.int .i64 3] 3)):=(aa.refl _ w3).alloc _;refine(FY _ All _ _ _ [1,2,3] _ (ah.keep Z.all H3.2) (lN (l:=[1,2,3]) (al.new _ _ _) rfl (by decide) (by decide))).mono ?_;rintro e w4 ⟨rfl,b0⟩;have b1:decide ([1,2,3]=([1,2,3]:List Int))=true:=rfl;rw[b1];have H4:=oH (H3.1.trans (Z.trans b0));clear Z b0;go_wp2_with fail;go_ret;exact⟨rfl,H4.out⟩
def RY (S:Nat→Prop)(w:World)(v:Value)(p:aH)(c:aE)(Nb:List (List Int))(fuel:Int):Prop:=∃x0 x1 x2 x3 x4 y0 y1 y2 iv,v=.agg #[x0,x1,x2,x3,x4,y0,y1,y2,iv,.int .i64 fuel]∧dJ S w (.agg #[x0,x1,x2,x3,x4]) p∧cQ S w (.agg #[y0,y1,y2]) c∧Rows S w iv Nb
def Qh (w:World)(e:Ending)(w':World):Prop:=e=.returned (.bool true)∧aa All w w'
def Ok (dl:List Bool)(c:aE)(i:Nat):Prop:=∀(k:Nat) b,k<i→c.Nf[k]? =some b→dl[k]? =some true→∀l∈b.Ng,∀x∈l,x.kind≠7
theorem Ok.shallow {p:aH}{c:aE}(h:Ok (iq p.Nc (cZ (cG c) c.main.toNat)) c c.Nf.length)(o:(iq p.Nc (cZ (cG c) c.main.toNat)).length=c.Nf.length):NP p c:=by
 rintro i b C ⟨x,j,R⟩;have hi:=(lS.1 C).1;obtain⟨v,J⟩:∃v,(iq p.Nc (cZ (cG c) c.main.toNat))[i]? =some v:=⟨_,lG (by omega)⟩;cases v with
 |false=>exact J
 |true=>obtain⟨l,Y,j⟩:=List.mem_flatten.1 j;exact absurd R (h i b hi C J l Y x j)
theorem Pe (S:Nat→Prop)(jv:Value)(p:aH)(c:aE)(Nb:List (List Int))(a6:Int)(w:World)(hj:RY S w jv p c Nb a6)(hl:gz w)(hS:∀b,S b→b<w.heap.size)(e0:kj p)(e1:lY c)(d8:rK c):
 Calls prog 3 #[jv] w (Qh w):=by
 have hN:=Dr (p:=p) names d8;obtain⟨x0,x1,x2,x3,x4,y0,y1,y2,iv,rfl,hp,hc,hi⟩:=hj;have e2:=cB.la hp;have c0:=dc.la hc;have c8:=aq.la hi;obtain⟨n9,vu,vi,vo,ep,k2,k3,k4,k5,k6⟩:=hp;cases ep;obtain⟨a1,n1,rfl,_⟩:=k2;obtain⟨a2,n2,rfl,_⟩:=k3;obtain⟨a3,n3,rfl,_⟩:=k4;obtain⟨a4,n4,rfl,_⟩:=k5;obtain⟨ka,kf,ec,k7,h6,k8⟩:=hc;cases ec;have e3:=bV.la h6;obtain⟨A1,C1,rfl,_⟩:=k7;obtain⟨A2,C2,rfl,_,_,k9,_⟩:=h6;obtain⟨ai,ci,rfl,_,_,l0,_⟩:=id hi;obtain⟨nf,b7⟩:=eQ c.Nf.length;obtain⟨ni,b8⟩:=eQ Nb.length;have o0:nf≤c.Nf.length:=eE b7;have o3:c.Nf.length≤nf:=eE b7.symm;have o4:ni≤Nb.length:=eE b8;have o5:Nb.length≤ni:=eE b8.symm;rw[←b7] at c0 e3 k9;rw[←b8] at c8 l0;rw[←b7,←b8];obtain⟨W0,c9⟩:=eQ (w.alloc (.cells #[.slice a1 p.MZ.length n1,.slice a2 p.up.length n2,.slice a3 p.Nb.length n3,.slice a4 p.Na.length n4,.int .i64 p.Nc,.slice A1 c.Nd.length C1,.slice A2 nf C2,.int .i64 c.main,.slice ai ni ci,.int .i64 a6] 33));have J:aa All w W0:=by rw[c9];exact kR.alloc _
 have C:al W0 w.heap.size 33 #[.slice a1 p.MZ.length n1,.slice a2 p.up.length n2,.slice a3 p.Nb.length n3,.slice a4 p.Na.length n4,.int .i64 p.Nc,.slice A1 c.Nd.length C1,.slice A2 nf C2,.int .i64 c.main,.slice ai ni ci,.int .i64 a6]:=by rw[c9];exact al.new _ _ _
 have e4:=oH (fun wn (o:aa All W0 wn)=>Hk S _ c wn (c0 wn (J.trans o)));have l1:=oH (fun wn (o:aa All W0 wn)=>CH S _ _ p c wn (e2 wn (J.trans o)) (c0 wn (J.trans o)) (hl.keep (J.trans o)) (fun b hb=>by have:=hS b hb;have:=(J.trans o).size;omega) e0 e1 hN);have l2:=oH (fun wn (o:aa All W0 wn) (l3:bJ p c) (l4:jH c) (b6:MH c) (hf:a6≤5000) (d7:NP p c)=>QM S _ _ _ p c Nb a6 wn (e2 wn (J.trans o)) (c0 wn (J.trans o)) (c8 wn (J.trans o)) (hl.keep (J.trans o)) (fun b hb=>by have:=hS b hb;have:=(J.trans o).size;omega) e0 e1 hN l3 l4 b6 hf d7);have HI:=oH (fun wn (o:aa All W0 wn)=>c8 wn (J.trans o));have HB:=oH (fun wn (o:aa All W0 wn)=>e3 wn (J.trans o));have HF:=oH (show∀wn,aa All W0 wn→wn.cell? ⟨w.heap.size,0,none⟩=some (.slice a1 p.MZ.length n1)∧wn.cell? ⟨w.heap.size,1,none⟩=some (.slice a2 p.up.length n2)∧wn.cell? ⟨w.heap.size,2,none⟩=some (.slice a3 p.Nb.length n3)∧wn.cell? ⟨w.heap.size,3,none⟩=some (.slice a4 p.Na.length n4)∧wn.cell? ⟨w.heap.size,4,none⟩=some (.int .i64 p.Nc)∧wn.cell? ⟨w.heap.size,5,none⟩=some (.slice A1 c.Nd.length C1)∧wn.cell? ⟨w.heap.size,6,none⟩=some (.slice A2 nf C2)∧wn.cell? ⟨w.heap.size,7,none⟩=some (.int .i64 c.main)∧wn.cell? ⟨w.heap.size,8,none⟩=some (.slice ai ni ci)∧wn.cell? ⟨w.heap.size,9,none⟩=some (.int .i64 a6) from fun wn o=>⟨(C.kept o trivial).cell 0,(C.kept o trivial).cell 1,(C.kept o trivial).cell 2,(C.kept o trivial).cell 3,(C.kept o trivial).cell 4,(C.kept o trivial).cell 5,(C.kept o trivial).cell 6,(C.kept o trivial).cell 7,(C.kept o trivial).cell 8,(C.kept o trivial).cell 9⟩);have HW:=J2 c9 J;have HL:=J2 b7 b8;clear c9 J C e2 c0 c8 e3 k6 k8 hl hS e0 e1 hN d8 b7 b8 hi;go_enter func3,ntmps3;go_upto_region 1 with fail;rw[←HW.1];obtain⟨q0,q1,q2,q3,q4,q5,q6,q7,q8,q9⟩:=HF.out W0 kR;go_wp2_with fail;refine(e4.out W0 kR).mono ?_;rintro e w1 ⟨bf,rfl,b6,h8⟩;clear q0 q1 q2 q3 q4 q5 q6 q7 q8 q9;have c1:=oH h8;have h9:=oH b6;clear h8 b6;cases bf
 case false=>go_wp2_with fail;go_ret;exact⟨rfl,HW.2.trans c1.out⟩
 obtain⟨q0,q1,q2,q3,q4,q5,q6,q7,q8,q9⟩:=HF.out w1 c1.out;by_cases o6:5000<a6
 ·go_wp2_with fail
  go_ret;exact⟨rfl,HW.2.trans c1.out⟩
 by_cases n0:40<ni
 ·go_wp2_with fail
  go_ret;exact⟨rfl,HW.2.trans c1.out⟩
 go_upto_region 4 with fail;clear q0 q1 q2 q3 q4 q5 q6 q7 q8 q9;go_loopg [3] ni (fun gg s3 wr=>∃k:Nat,k≤ni∧gg=ni-k∧s3=.int .i64 k∧aa All w1 wr);·exact⟨0,by omega,by omega,rfl,kR⟩
 obtain⟨k,o,rfl,rfl,R⟩:=hrel;obtain⟨wo,l5⟩:=eQ wr;subst l5;have b9:=oH (c1.out.trans R);have i0:=oH R;clear R;obtain⟨q0,q1,q2,q3,q4,q5,q6,q7,q8,q9⟩:=HF.out wo b9.out;by_cases o7:k<ni
 ·obtain⟨xs,i1⟩:∃xs,Nb[k]? =some xs:=⟨_,lG (by omega)⟩;obtain⟨rb,ro,rv,rfl,_,b1,b5⟩:=bn (HI.out wo b9.out) i1;obtain⟨rA,rC,rfl,_,_,l6,_⟩:=id b5;obtain⟨rn,i2⟩:=eQ xs.length;rw[←i2] at b1 l6;clear i2 b5 i1;by_cases h5:5000<rn
  ·go_wp2_with fail
   go_ret;exact⟨rfl,HW.2.trans b9.out⟩
  go_wp2_with fail;go_roundg (ni-(k+1));·exact⟨k+1,by omega,rfl,by go_num,i0.out⟩
  omega
 go_wp2_with fail;refine(l1.out wo b9.out).mono ?_;rintro e w2 (⟨i4,u,rfl,c2,hu⟩|⟨a8,rfl,c2⟩)
 case inr=>(have Y:=oH (b9.out.trans c2);clear q0 q1 q2 q3 q4 q5 q6 q7 q8 q9 c2 a8;go_wp2_with fail;refine(uF w2).mono ?_;rintro e w3 ⟨rfl,c5⟩;have e5:=oH c5;clear c5;go_wp2_with fail;go_ret;exact⟨rfl,HW.2.trans (Y.out.trans e5.out)⟩)
 have a7:(iq p.Nc (cZ (cG c) c.main.toNat)).length=nf:=by rw[HL.1];simp[iq,pC,dT]
 obtain⟨dl,e6⟩:=eQ (iq p.Nc (cZ (cG c) c.main.toNat));rw[←e6] at hu a7;have l7:dl.length≤nf:=eE a7;have l8:nf≤dl.length:=eE a7.symm;have i5:=cR.wide (T:=All) (fun _ _=>trivial) hu;have HU:=oH (cR.la i5);obtain⟨dA,dC,rfl,_⟩:=id hu;rw[a7] at HU;rw[a7];have Y:=oH (b9.out.trans c2);have c6:=J3 i4 e6 a7;clear q0 q1 q2 q3 q4 q5 q6 q7 q8 q9 c2 i4 hu i5 e6 a7;obtain⟨q0,q1,q2,q3,q4,q5,q6,q7,q8,q9⟩:=HF.out w2 Y.out;go_upto_region 14 with fail;clear q0 q1 q2 q3 q4 q5 q6 q7 q8 q9;go_loopg [6] nf (fun gg s6 wr=>∃i:Nat,i≤nf∧gg=nf-i∧s6=.int .i64 i∧aa All w2 wr∧Ok dl c i);·exact⟨0,by omega,by omega,rfl,kR,fun k b h=>by omega⟩
 obtain⟨i,hi,rfl,rfl,R,a8⟩:=hrel;obtain⟨wa,l9⟩:=eQ wr;subst l9;have HN:=J2 R a8;clear R a8;by_cases n5:i<nf;·(
 obtain⟨b,hb⟩:∃b,c.Nf[i]? =some b:=⟨_,lG (by omega)⟩;obtain⟨dv,e7⟩:∃dv,dl[i]? =some dv:=⟨_,lG (by omega)⟩;obtain⟨fb,fo,o8,rfl,_,_,i6,u,rfl,b2,_⟩:=aZ (HB.out wa (Y.out.trans HN.1)) hb;obtain⟨db,m0,dw,rfl,_,b4,rfl⟩:=bn (HU.out wa HN.1) e7;obtain⟨A3,c3,rfl,_,_,i7,_⟩:=id b2;obtain⟨m,hm⟩:=eQ b.Ng.length;have o9:m≤b.Ng.length:=eE hm;have p0:b.Ng.length≤m:=eE hm.symm;have b3:=i6 2 _ rfl;rw[←hm] at b3 i7 b2;have HR:=oH (bg.la b2);have HC:=oH (fun wn (o:aa All wa wn)=>And.intro (o.cell (p:=⟨fb,fo+i*3+2,none⟩) trivial b3) (o.cell (p:=⟨db,m0+i,none⟩) trivial b4));have j0:=J2 hb e7;clear i6 b2 b4 b3 hb e7 hm;obtain⟨q0,q1,q2,q3,q4,q5,q6,q7,q8,q9⟩:=HF.out wa (Y.out.trans HN.1);go_upto_region 17 with fail;clear q0 q1 q2 q3 q4 q5 q6 q7 q8 q9;go_loopg [7] m (fun gg s7 wr=>∃j:Nat,j≤m∧gg=m-j∧s7=.int .i64 j∧aa All wa wr∧(dv=true→∀l∈b.Ng.take j,∀x∈l,x.kind≠7));·exact⟨0,by omega,by omega,rfl,kR,fun _ l h=>by simp at h⟩
 obtain⟨j,hj,rfl,rfl,R,a8⟩:=hrel;obtain⟨wb,m1⟩:=eQ wr;subst m1;have Z:=J2 R a8;clear R a8;obtain⟨q0,q1,q2,q3,q4,q5,q6,q7,q8,q9⟩:=HF.out wb ((Y.out.trans HN.1).trans Z.1);obtain⟨b3,b4⟩:=HC.out wb Z.1;by_cases n6:j<m;·(
 obtain⟨l,hl⟩:∃l,b.Ng[j]? =some l:=⟨_,lG (by omega)⟩;obtain⟨rb,ro,rv,rfl,_,b1,b5⟩:=bn (HR.out wb Z.1) hl;obtain⟨A4,c4,rfl,_,_,j1,_⟩:=id (show tZ _ wb rv l from b5);obtain⟨q,hq⟩:=eQ l.length;have p1:q≤l.length:=eE hq;have p2:l.length≤q:=eE hq.symm;rw[←hq] at b1 j1 b5;have m2:=oH (fun wn (o:aa All wb wn)=>cT.keep o.all (show tZ _ wb (.slice A4 q c4) l from b5));have j2:=oH (fun wn (o:aa All wb wn)=>o.cell (p:=⟨rb,ro+j,none⟩) trivial b1);have m3:=oH hl;clear hl b5 hq b1 q0 q1 q2 q3 q4 q5 q6 q7 q8 q9 b3 b4;obtain⟨q0,q1,q2,q3,q4,q5,q6,q7,q8,q9⟩:=HF.out wb ((Y.out.trans HN.1).trans Z.1);obtain⟨b3,b4⟩:=HC.out wb Z.1;have b1:=j2.out wb kR;go_upto_region 20 with fail;clear q0 q1 q2 q3 q4 q5 q6 q7 q8 q9 b3 b4 b1;go_loopg [8] q (fun gg s8 wr=>∃k:Nat,k≤q∧gg=q-k∧s8=.int .i64 k∧aa All wb wr∧(dv=true→∀x∈l.take k,x.kind≠7));·exact⟨0,by omega,by omega,rfl,kR,fun _ x h=>by simp at h⟩
 obtain⟨k,o,rfl,rfl,R,a8⟩:=hrel;obtain⟨wc,m4⟩:=eQ wr;subst m4;have b0:=J2 R a8;clear R a8;obtain⟨q0,q1,q2,q3,q4,q5,q6,q7,q8,q9⟩:=HF.out wc (((Y.out.trans HN.1).trans Z.1).trans b0.1);obtain⟨b3,b4⟩:=HC.out wc (Z.1.trans b0.1);have b1:=j2.out wc b0.1;by_cases n7:k<q;·(
 obtain⟨x,hx⟩:∃x,l[k]? =some x:=⟨_,lG (by omega)⟩;obtain⟨ob,oo,p3,rfl,_,_,j3,m5⟩:=aZ (m2.out wc b0.1) hx;obtain⟨o1,o2,rfl,_⟩:=m5;have e8:=j3 0 _ rfl;rw[dj] at e8;have HX:=oH hx;clear j3 hx;by_cases e9:dv=true∧x.kind=7;·obtain⟨rfl,j4⟩:=e9;rw[j4] at e8;clear j4;go_wp2_with fail;refine(uF wc).mono ?_;rintro e w3 ⟨rfl,c5⟩;have e5:=oH c5;clear c5 q0 q1 q2 q3 q4 q5 q6 q7 q8 q9 b3 b4 b1 e8;go_wp2_with fail;go_ret;exact⟨rfl,HW.2.trans ((((Y.out.trans HN.1).trans Z.1).trans b0.1).trans e5.out)⟩
 have j5:=oH e9;have step:dv=true→∀y∈l.take (k+1),y.kind≠7:=fun h y hy=>by(
 rw[cU,HX.out] at hy;rcases eD.1 hy with hy|hy;·exact b0.2 h y hy
 have:y=x:=by simpa using hy
 rw[this];exact fun h7=>j5.out ⟨h,h7⟩)
 have j6:=oH step;clear step e9;cases dv with
 |false=>
  go_wp2_with fail;go_roundg (q-(k+1));·exact⟨k+1,by omega,rfl,by go_num,b0.1,j6.out⟩
  omega
 |true=>
  have h7:¬(x.kind=7):=fun h=>j5.out ⟨rfl,h⟩;have p4:¬((x.kind:Int)=7):=fun h=>h7 (by omega);go_wp2_with fail;go_roundg (q-(k+1));·exact⟨k+1,by omega,rfl,by go_num,b0.1,j6.out⟩
  omega)
 have h3:dv=true→∀l'∈b.Ng.take (j+1),∀x∈l',x.kind≠7:=fun h l' j7=>by(
 rw[cU,m3.out] at j7;rcases eD.1 j7 with hy|hy;·exact Z.2 h l' hy
 have:l'=l:=by simpa using hy
 rw[this];have h4:=b0.2 h;rwa [oF (by omega)] at h4)
 have H3:=oH h3;clear h3;go_wp2_with fail;go_roundg (m-(j+1));·exact⟨j+1,by omega,rfl,by go_num,Z.1.trans b0.1,H3.out⟩
 omega)
 have h3:Ok dl c (i+1):=fun k b' o h0 h1 l hl x hx=>by
  by_cases e:k=i;·subst e;rw[j0.1] at h0;rw[j0.2] at h1;cases h0;have h4:=Z.2 (by injection h1);rw[oF (by omega)] at h4;exact h4 l hl x hx
  exact HN.2 k b' (by omega) h0 h1 l hl x hx
 have H3:=oH h3;clear h3;go_wp2_with fail;go_roundg (nf-(i+1));·exact⟨i+1,by omega,rfl,by go_num,HN.1.trans Z.1,H3.out⟩
 omega)
 obtain⟨q0,q1,q2,q3,q4,q5,q6,q7,q8,q9⟩:=HF.out wa (Y.out.trans HN.1);have d7:NP p c:=by have h:=HN.2;rw[c6.2.1] at h;refine Ok.shallow (fun k b o=>h k b (by omega)) ?_;rw[←c6.2.1,c6.2.2,HL.1]
 have m6:=oH (l2.out wa (Y.out.trans HN.1) c6.1.1 c6.1.2 (h9.out trivial) (by omega) d7);clear d7;go_wp2_with fail;refine m6.out.mono ?_;rintro e w4 ⟨st,er,s,tA,tn,tc,rfl,h2,j8⟩;have j9:=J2 j8 h2;clear j8 q0 q1 q2 q3 q4 q5 q6 q7 q8 q9;have k0:aa All w4 (w4.alloc (.cells #[.int .i64 st,.int .i64 s,.slice tA tn tc] 50)):=kR.alloc _;have bR:al (w4.alloc (.cells #[.int .i64 st,.int .i64 s,.slice tA tn tc] 50)) w4.heap.size 50 #[.int .i64 st,.int .i64 s,.slice tA tn tc]:=al.new _ _ _;go_upto_region 25 with fail;generalize w4.alloc _=w5 at*;have m7:=oH k0;have r0:=bR.cell 0;simp only[gc] at r0;clear k0 bR;have k1:∀e w6,e=Ending.returned (.bool true)∧aa All w5 w6→aa All w w6:=fun e w6 h=>HW.2.trans (((Y.out.trans HN.1).trans j9.1).trans (m7.out.trans h.2));have d9:=oH k1;clear k1;by_cases m8:er=0
 ·subst m8;have m9:¬(st=22):=j9.2 rfl;have n8:(st !=22)=true:=by simpa using m9
  clear h2;go_wp2_with fail;refine(uF w5).mono ?_;rintro e w6 ⟨rfl,c7⟩;have H6:=oH (d9.out _ w6 ⟨rfl,c7⟩);clear c7;go_wp2_with fail;go_ret;exact⟨rfl,H6.out⟩
 clear h2;go_wp2_with fail;refine(uF w5).mono ?_;rintro e w6 ⟨rfl,c7⟩;have H6:=oH (d9.out _ w6 ⟨rfl,c7⟩);clear c7;go_wp2_with fail;go_ret;exact⟨rfl,H6.out⟩
theorem FW:(prog.info? 9).map (fun i=>(i.zero,i.size,i.bytes))=some (some (.string ⟨#[]⟩),1,16):=by kernel_rfl
theorem Jn:(prog.info? 93).map (fun i=>(i.zero,i.size,i.bytes))=some (some (.agg #[.string ⟨#[]⟩,.int .i64 0]),2,24):=by kernel_rfl
theorem vr {S:Nat→Prop}{w:World}{v:Value}{l:List Int}(h:aK S w v l):aK (fun b=>S b∧b<w.heap.size) w v l:=by obtain⟨A,c,e,o,C,J,R⟩:=h;refine⟨A,c,e,o,C,J,fun i x Y=>?_⟩;obtain⟨b,off,u,Z,e2,j,e4⟩:=R i x Y;exact⟨b,off,u,Z,⟨e2,jy w _ j⟩,j,e4⟩
def yO (x:bz)(a f:Value):List Value:=[.int .u8 x.kind,.int .u8 x.op,.int .i64 x.dst,.int .i64 x.ref,.int .i64 x.Ni,a,f,.int .i64 x.num,.int .i64 x.Nj]
def ki (g lo j:Nat)(hf:Bool)(w:World)(l:List bz):Prop:=∃cur,al w g 47 cur∧∀(k:Nat) y,l[k]? =some y→∃a f,
 (∀(r:Nat) u,(yO y a f)[r]? =some u→cur[k*9+r]? =some u)∧aK (fun b=>((k<j∨(k=j∧hf=true))→lo≤b)∧b≠g) w a y.args∧aK (fun b=>(k<j→lo≤b)∧b≠g) w f y.Nh∧jx y
theorem ki.keep {g lo j:Nat}{J:Bool}{w o:World}{l:List bz}{S:Nat→Prop}(h:ki g lo j J w l)(k:aa S w o)(Y:∀b,b<w.heap.size→S b):ki g lo j J o l:=by obtain⟨cur,Z,h2⟩:=h;have C:aa All w o:=⟨k.os,k.output,k.size,fun b R _=>k.block b R (Y b R)⟩;refine⟨cur,Z.kept C trivial,fun k y hy=>?_⟩;obtain⟨a,f,e1,e2,e3,e4⟩:=h2 k y hy;exact⟨a,f,e1,ah.keep C.all e2,ah.keep C.all e3,e4⟩
theorem ki.get {g lo j:Nat}{C:Bool}{w:World}{l:List bz}(h:ki g lo j C w l){k:Nat}{x:bz}(J:l[k]? =some x):∃a f,(∀(r:Nat) u,(yO x a f)[r]? =some u→w.cell? ⟨g,k*9+r,none⟩=some u)∧(∀r,w.frozen? ⟨g,k*9+r,none⟩=false)∧aK (fun b=>b≠g) w a x.args∧aK (fun b=>b≠g) w f x.Nh:=by obtain⟨cur,o,R⟩:=h;obtain⟨a,f,Y,Z,e3,e4⟩:=R k x J;exact⟨a,f,fun r u hu=>by rw[o.cell];exact Y r u hu,fun r=>o.free _,ah.wide (fun _ h=>h.2) Z,ah.wide (fun _ h=>h.2) e3⟩
theorem rE {cur:Array Value}{i j:Nat}{u v:Value}(h:cur[j]? =some v)(l:i≠j):(cur.setIfInBounds i u)[j]? =some v:=by rw[Array.getElem?_setIfInBounds_ne l];exact h
theorem Hi {cur:Array Value}{i:Nat}{u v:Value}(h:cur[i]? =some v):(cur.setIfInBounds i u)[i]? =some u:=by rw[Array.getElem?_setIfInBounds_self_of_lt (mV.1 h).1]
theorem rC {y:bz}{a f:Value}{r:Nat}{u:Value}(h:(yO y a f)[r]? =some u):r<9:=(lS.1 h).1
theorem Lp {y:bz}{a f j:Value}{r:Nat}{u:Value}(h:(yO y j f)[r]? =some u)(l:r≠5):(yO y a f)[r]? =some u:=by have:=rC h;rcases r with _|_|_|_|_|_|_|_|_|r<;>first|exact h|omega
theorem Lq {y:bz}{a f j:Value}{r:Nat}{u:Value}(h:(yO y a j)[r]? =some u)(l:r≠6):(yO y a f)[r]? =some u:=by have:=rC h;rcases r with _|_|_|_|_|_|_|_|_|r<;>first|exact h|omega
theorem ki.args {g lo j:Nat}{w:World}{l:List bz}{x:bz}{u:Value}(h:ki g lo j false w l)(hx:l[j]? =some x)(hu:aK (fun b=>lo≤b∧b≠g) w u x.args):ki g lo j true (w.setCell ⟨g,j*9+5,none⟩ u) l:=by
 obtain⟨cur,h1,h2⟩:=h;have R:aa (fun b=>b≠g) w (w.setCell ⟨g,j*9+5,none⟩ u):=(aa.refl _ w).setCell (p:=⟨g,j*9+5,none⟩) (.inl fun h=>h rfl) _;refine⟨_,h1.set _ _,fun k y Y=>?_⟩;obtain⟨a,f,Z,e2,e3,e4⟩:=h2 k y Y;by_cases C:k=j
 ·subst C;rw[hx] at Y;cases Y;refine⟨u,f,fun r v J=>?_,ah.wide (fun b o=>⟨fun _=>o.1,o.2⟩) (ah.keep (R.mono fun b o=>o.2) hu),ah.keep (R.mono fun b o=>o.2) e3,e4⟩;by_cases hr:r=5
  ·subst hr
   cases J;exact Hi (Z 5 a rfl)
  exact rE (Z r v (Lp J hr)) (by omega)
 refine⟨a,f,fun r v J=>?_,ah.wide (fun b o=>⟨fun h=>o.1 (h.elim .inl fun h=>absurd h.1 C),o.2⟩) (ah.keep (R.mono fun b o=>o.2) e2),ah.keep (R.mono fun b o=>o.2) e3,e4⟩;have:=rC J;exact rE (Z r v J) (by omega)
theorem ki.Nh {g lo j:Nat}{w:World}{l:List bz}{x:bz}{u:Value}(h:ki g lo j true w l)(hx:l[j]? =some x)(hu:aK (fun b=>lo≤b∧b≠g) w u x.Nh):ki g lo (j+1) false (w.setCell ⟨g,j*9+6,none⟩ u) l:=by
 obtain⟨cur,h1,h2⟩:=h;have J:aa (fun b=>b≠g) w (w.setCell ⟨g,j*9+6,none⟩ u):=(aa.refl _ w).setCell (p:=⟨g,j*9+6,none⟩) (.inl fun h=>h rfl) _;refine⟨_,h1.set _ _,fun k y R=>?_⟩;obtain⟨a,f,Y,e2,e3,e4⟩:=h2 k y R;by_cases Z:k=j
 ·subst Z;rw[hx] at R;cases R;refine⟨a,u,fun r v C=>?_,ah.wide (fun b o=>⟨fun _=>o.1 (.inr ⟨rfl,rfl⟩),o.2⟩) (ah.keep (J.mono fun b o=>o.2) e2),ah.wide (fun b o=>⟨fun _=>o.1,o.2⟩) (ah.keep (J.mono fun b o=>o.2) hu),e4⟩;by_cases hr:r=6
  ·subst hr
   cases C;exact Hi (Y 6 f rfl)
  exact rE (Y r v (Lq C hr)) (by omega)
 refine⟨a,f,fun r v C=>?_,ah.wide (fun b o=>⟨fun h=>o.1 (h.elim (fun h=>.inl (by omega)) fun h=>by cases h.2),o.2⟩) (ah.keep (J.mono fun b o=>o.2) e2),ah.wide (fun b o=>⟨fun h=>o.1 (by omega),o.2⟩) (ah.keep (J.mono fun b o=>o.2) e3),e4⟩;have:=rC C;exact rE (Y r v C) (by omega)
theorem ki.done {g lo c:Nat}{w:World}{l:List bz}(h:ki g lo l.length false w l)(R:lo≤g)(Y:l.length≤c)(hm:c≤maxLen)(j:l.length*96≤140737488355328):tZ (fun b=>lo≤b∧b<w.heap.size) w (.slice (some ⟨g,0,none⟩) l.length c) l:=by obtain⟨cur,o,Z⟩:=h;refine⟨_,_,rfl,Y,hm,j,fun k y C=>?_⟩;obtain⟨a,f,e1,e2,e3,e4⟩:=Z k y C;have J:=(lS.1 C).1;refine⟨g,0,yO y a f,rfl,⟨R,o.lt⟩,rfl,fun r u hu=>?_,a,f,rfl,vr (ah.wide (fun b j=>j.1 (.inl J)) e2),vr (ah.wide (fun b j=>j.1 J) e3),e4⟩;rw[o.cell,cN];exact e1 r u hu
theorem Dg:(prog.info? 74).map (fun i=>(i.zero,i.size,i.bytes))=some (some (.agg #[.int .i64 0,.int .i64 0]),2,16):=by kernel_rfl
theorem kj.sz {p:aH}(h:kj p):xF p:=
 ⟨fun s l=>fR (h.MZ s l) (by decide),fun x j=>fR (h.Nb x j) (by decide),fun x j=>fR (h.Na x j) (by decide)⟩
def kg {α:Type}(E:bT α)(ok:Prop)(x:α)(v:Value)(wn:World):Prop:=(ok∧∃A n k,v=.tuple #[.slice A n k,.int .i64 0]∧E All wn (.slice A n k) x)∨(¬ok∧v=.tuple #[.slice none 0 0,.int .i64 1])
theorem kg.keep {α:Type}{E:bT α}{ok:Prop}{x:α}{v:Value}{wn j:World}(g:bT.Good E)(l:aa All wn j)(h:kg E ok x v wn):kg E ok x v j:=by
 rcases h with ⟨o,A,n,k,e,C⟩|h;·exact .inl ⟨o,A,n,k,e,g.keep l C⟩
 exact .inr h
def Ct (p:aH)(c:aE)(tp tc:Tmp)(R:Value→World→Prop)(t:Tmp)(v:Value)(wn:World):Prop:=if t=tp then dJ (fun b=>b<wn.heap.size) wn v p else if t=tc then cQ (fun b=>b<wn.heap.size) wn v c else R v wn
theorem Ct.keep {p:aH}{c:aE}{tp o:Tmp}{R:Value→World→Prop}(Y:∀ {v wn j},aa All wn j→R v wn→R v j){wn j:World}(l:aa All wn j)(t:Tmp){v:Value}(h:Ct p c tp o R t v wn):Ct p c tp o R t v j:=by
 have hs:=l.size;unfold Ct at h⊢;by_cases C:t=tp
 ·rw[ap C] at h⊢
  exact cB.wide (fun b (Z:b<wn.heap.size)=>show b<j.heap.size by omega) (cB.keep l.all h)
 rw[ae C] at h⊢;by_cases J:t=o
 ·rw[ap J] at h⊢
  exact dc.wide (fun b (Z:b<wn.heap.size)=>show b<j.heap.size by omega) (dc.keep l.all h)
 rw[ae J] at h⊢;exact Y l h
end Go.Proofs.YtncdbjponknakaaGreatDoor
