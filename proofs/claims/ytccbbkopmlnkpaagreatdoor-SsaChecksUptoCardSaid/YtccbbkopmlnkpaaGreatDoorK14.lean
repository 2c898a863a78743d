/- Part 15 of the proof (its last part says what is proved). No condition. -/
import Derived.Test.YtccbbkopmlnkpaaGreatDoorK8
import Derived.Test.YtccbbkopmlnkpaaGreatDoorK13
namespace Go.Proofs.YtccbbkopmlnkpaaGreatDoor
set_option maxRecDepth 100000
set_option maxHeartbeats 8000000
open Go.RowKit Go.Proofs.Tryz
def Kd (s:ByteArray):Prop:=s.size≤140737488355328
def EC (l:List (ByteArray×Int)):Prop:=∀x∈l,Kd x.1
structure xF (p:aH):Prop where
 MZ:∀s∈p.MZ,Kd s
 Nb:EC p.Nb
 Na:EC p.Na
theorem BJ {S:Nat→Prop}{w:World}{A:Option Addr}{n c:Nat}{l:List (ByteArray×Int)}(h:kh S w (.slice A n c) l){i:Nat}{x:ByteArray×Int}(hi:l[i]? =some x):∃b o,A=some ⟨b,o,none⟩∧S b∧w.cell? ⟨b,o+i*2,none⟩=some (.string x.1)∧w.cell? ⟨b,o+i*2+1,none⟩=some (.int .i64 x.2)∧(Lit.int .i64 x.2).wf=true:=by obtain⟨a,cap,C,_,_,_,h⟩:=h;injection C with I R Y;subst I;obtain⟨b,o,cs,e,J,_,j,rfl,hw⟩:=h i _ hi;exact⟨b,o,e,J,j 0 _ rfl,j 1 _ rfl,hw⟩
theorem pU (S T:Nat→Prop)(v vl:Value)(p:aH)(l:List (ByteArray×Int))(w:World)(hv:dJ S w v p)(hl:kh T w vl l)(b7:EC l):
 Calls prog 94 #[v,vl] w fun e w'=>e=.returned (.bool (pB (cE p l)))∧aa All w w':=by
 obtain⟨a,b,c,d,rfl,h1,_⟩:=hv;obtain⟨a1,R,rfl,k1,k2,k3,_⟩:=h1;have b8:=hl;obtain⟨A,cap,rfl,g1,g2,g3,_⟩:=hl;unfold maxLen at g2 k2;have b9:aa All w (w.alloc (.cells #[.slice a1 p.MZ.length R,b,c,d,.int .i64 p.Nc] 26)):=(aa.refl All w).alloc _;have c0:al (w.alloc (.cells #[.slice a1 p.MZ.length R,b,c,d,.int .i64 p.Nc] 26)) w.heap.size 26 #[.slice a1 p.MZ.length R,b,c,d,.int .i64 p.Nc]:=al.new _ _ _;have HL:=J4 b8 b9 c0 b7;clear b8 b9 c0 b7;go_enter func94,ntmps94;by_cases d7:32<l.length
 ·have hd:decide ((32:Int)<l.length)=true:=by simp;omega
  have Y:=oH (au (P:=cE p l) fun h=>by have:=h.1;omega);go_wp2;go_ret;exact⟨by rw[Y.out];rfl,HL.2.1⟩
 have hd:decide ((32:Int)<l.length)=false:=by simp;omega
 go_wp2;go_loopg [5] l.length (fun g i wr=>∃k:Nat,k≤l.length∧g=l.length-k∧i=.int .i64 k∧aa All (w.alloc (.cells #[.slice a1 p.MZ.length R,b,c,d,.int .i64 p.Nc] 26)) wr∧∀(i:Nat) y,i<k→l[i]? =some y→lj p l i y);·exact⟨0,by omega,by omega,rfl,kR,fun i y hi=>by omega⟩
 obtain⟨k,j,rfl,rfl,b4,b2⟩:=hrel;have HA:=J3 b4 b2 (HL.2.1.trans b4);clear b4 b2;by_cases c6:k<l.length;·(
 obtain⟨x,hx⟩:=eG c6;have a7:∀wn,aa All wr wn→∃bb o,A=some ⟨bb,o,none⟩∧wn.cell? ⟨bb,o+k*2,none⟩=some (.string x.1)∧wn.cell? ⟨bb,o+k*2+1,none⟩=some (.int .i64 x.2)∧wn.cell? ⟨w.heap.size,0,none⟩=some (.slice a1 p.MZ.length R):=fun wn b1=>by obtain⟨bb,o,e,_,c1,c2,_⟩:=BJ (aX.keep (S:=T) (HA.2.2.trans b1).all HL.1) hx;exact⟨bb,o,e,c1,c2,(HL.2.2.1.kept (HA.1.trans b1) trivial).cell 0⟩
 obtain⟨bb,o,rfl,_⟩:=a7 wr kR;have a6:∀wn,aa All wr wn→wn.cell? ⟨bb,o+k*2,none⟩=some (.string x.1)∧wn.cell? ⟨bb,o+k*2+1,none⟩=some (.int .i64 x.2)∧wn.cell? ⟨w.heap.size,0,none⟩=some (.slice a1 p.MZ.length R):=fun wn b1=>by obtain⟨b',o',e,q⟩:=a7 wn b1;cases e;exact q
 have a8:=fun wn (j:aa All wr wn)=>(xg T _ l x.1 wn (aX.keep (HA.2.2.trans j).all HL.1)).mono (R':=fun e w'=>e=.returned (.int .i64 (fD l x.1))∧aa All wn w') fun e w' h=>⟨h.1,h.2▸aa.refl All _⟩;have b5:=fun wn=>oA x.1 wn (HL.2.2.2 x (mG hx));have b3:¬lj p l k x→pB (cE p l)=false:=fun h=>au fun h'=>h (h'.2 k x hx);have J:lj p l k x↔aB x.1=true∧fD l x.1=k∧0≤x.2∧x.2<p.MZ.length:=Iff.rfl;have b0:=sn hx HA.2.1;have b6:=sq hx;have c3:=kT (fun y:ByteArray×Int=>y.1.toList==x.1.toList) l;rw[show gJ (fun y:ByteArray×Int=>y.1.toList==x.1.toList) l=fD l x.1 from rfl] at c3;have c4:(Lit.int .i64 x.2).wf=true:=by obtain⟨_,_,_,_,_,_,h⟩:=BJ (aX.keep (S:=T) HA.2.2.all HL.1) hx;exact h
 obtain⟨w1,w2⟩:=rs c4;obtain⟨x1,x2⟩:=x;simp only at a6 a8 b5 J w1 w2 b6 c3;generalize aB x1=nm at*;generalize fD l x1=r at*;have I:=J5 a6 a8 b5 b3 b0;clear a7 a6 a8 b5 b3 b0 c4 hx;cases nm with
 |false=>
  have Y:=oH (I.2.2.2.1 fun h=>by rw[J] at h;exact Bool.noConfusion h.1);clear J;go_wp2;refine R0 37 wr (fun i=>if i=5 then some (·=.bool false) else none) ?_;iterate 4 refine O0 ?_
  refine O4 I.1 ?_;refine O5 (v:=.bool false) (fun wn j hp=>⟨_,_,by(skip;go_simp<;>with_reducible rfl),(((fun wn (_:aa All wr wn)=>I.2.2.1 wn) wn j).mono fun e w' h=>⟨h.1,j.trans h.2,fun _ h=>by cases h⟩)⟩) ?_;iterate 2 refine O0 ?_
  iterate 9 refine O2 ?_
  iterate 2 refine O0 ?_
  iterate 6 refine O2 ?_
  iterate 2 refine O0 ?_
  iterate 9 refine O2 ?_
  refine O0 ?_;refine aG fun wt C hF=>?_;have HT:=oH C;clear C hF;simp only[dK];have HN:=oH (HA.2.2.trans HT.out);go_wp2_with fail;go_ret;exact⟨by rw[Y.out];rfl,HN.out⟩
 |true=>
  by_cases e1:r=(k:Int);·(
 have c7:(r !=(k:Int))=false:=by simpa using e1
 by_cases e2:x2<0;·(
 have c8:decide (x2<0)=true:=by simpa using e2
 have Y:=oH (I.2.2.2.1 fun h=>by rw[J] at h;omega);have HE:=oH e1;clear e1 J;go_wp2;refine R0 37 wr (fun i=>if i=14 then some (·=.int .i64 r) else if i=5 then some (·=.bool true) else none) ?_;iterate 4 refine O0 ?_
 refine O4 I.1 ?_;refine O5 (v:=.bool true) (fun wn j hp=>⟨_,_,by(skip;go_simp<;>with_reducible rfl),(((fun wn (_:aa All wr wn)=>I.2.2.1 wn) wn j).mono fun e w' h=>⟨h.1,j.trans h.2,fun _ h=>by cases h⟩)⟩) ?_;iterate 7 refine O0 ?_
 refine O4 I.1 ?_;refine O5 (v:=.int .i64 r) (fun wn j hp=>⟨_,_,by(skip;go_simp<;>with_reducible rfl),(((fun wn j=>I.2.1 wn j) wn j).mono fun e w' h=>⟨h.1,j.trans h.2,fun _ h=>by cases h⟩)⟩) ?_;iterate 12 first|refine O4 I.1 ?_|refine O0 ?_
 iterate 9 refine O2 ?_
 refine O0 ?_;refine aG fun wt C hF=>?_;have HT:=oH C;clear C hF;simp only[dK];have HN:=oH (HA.2.2.trans HT.out);go_wp2_with fail;go_ret;exact⟨by rw[Y.out];rfl,HN.out⟩)
 have c8:decide (x2<0)=false:=by simpa using e2
 by_cases e3:(p.MZ.length:Int)≤x2
 ·have c9:decide ((p.MZ.length:Int)≤x2)=true:=by simpa using e3
  have Y:=oH (I.2.2.2.1 fun h=>by rw[J] at h;omega);have HE:=oH e1;clear e1 J;go_wp2;refine R0 37 wr (fun i=>if i=14 then some (·=.int .i64 r) else if i=5 then some (·=.bool true) else none) ?_;iterate 4 refine O0 ?_
  refine O4 I.1 ?_;refine O5 (v:=.bool true) (fun wn j hp=>⟨_,_,by(skip;go_simp<;>with_reducible rfl),(((fun wn (_:aa All wr wn)=>I.2.2.1 wn) wn j).mono fun e w' h=>⟨h.1,j.trans h.2,fun _ h=>by cases h⟩)⟩) ?_;iterate 7 refine O0 ?_
  refine O4 I.1 ?_;refine O5 (v:=.int .i64 r) (fun wn j hp=>⟨_,_,by(skip;go_simp<;>with_reducible rfl),(((fun wn j=>I.2.1 wn j) wn j).mono fun e w' h=>⟨h.1,j.trans h.2,fun _ h=>by cases h⟩)⟩) ?_;iterate 22 first|refine O4 I.1 ?_|refine O0 ?_
  refine aG fun wt C hF=>?_;have HT:=oH C;clear C hF;simp only[dK];have HN:=oH (HA.2.2.trans HT.out);go_wp2_with fail;go_ret;exact⟨by rw[Y.out];rfl,HN.out⟩
 have c9:decide ((p.MZ.length:Int)≤x2)=false:=by simpa using e3
 have c5:=oH (I.2.2.2.2 (J.2 ⟨rfl,e1,by omega,by omega⟩));have HE:=oH e1;clear e1 J;go_wp2;refine R0 37 wr (fun i=>if i=14 then some (·=.int .i64 r) else if i=5 then some (·=.bool true) else none) ?_;iterate 4 refine O0 ?_
 refine O4 I.1 ?_;refine O5 (v:=.bool true) (fun wn j hp=>⟨_,_,by(skip;go_simp<;>with_reducible rfl),(((fun wn (_:aa All wr wn)=>I.2.2.1 wn) wn j).mono fun e w' h=>⟨h.1,j.trans h.2,fun _ h=>by cases h⟩)⟩) ?_;iterate 7 refine O0 ?_
 refine O4 I.1 ?_;refine O5 (v:=.int .i64 r) (fun wn j hp=>⟨_,_,by(skip;go_simp<;>with_reducible rfl),(((fun wn j=>I.2.1 wn j) wn j).mono fun e w' h=>⟨h.1,j.trans h.2,fun _ h=>by cases h⟩)⟩) ?_;iterate 22 first|refine O4 I.1 ?_|refine O0 ?_
 refine aG fun wt C hF=>?_;have HT:=oH C;clear C hF;simp only[dK];have HN:=oH (HA.1.trans HT.out);go_wp2_with fail;go_roundg (l.length-(k+1));·exact⟨k+1,by omega,rfl,by go_num,HN.out,c5.out⟩
 omega)
  have c7:(r !=(k:Int))=true:=by simpa using e1
  have Y:=oH (I.2.2.2.1 fun h=>by rw[J] at h;exact e1 h.2.1);clear J e1;go_wp2;refine R0 37 wr (fun i=>if i=14 then some (·=.int .i64 r) else if i=5 then some (·=.bool true) else none) ?_;iterate 4 refine O0 ?_
  refine O4 I.1 ?_;refine O5 (v:=.bool true) (fun wn j hp=>⟨_,_,by(skip;go_simp<;>with_reducible rfl),(((fun wn (_:aa All wr wn)=>I.2.2.1 wn) wn j).mono fun e w' h=>⟨h.1,j.trans h.2,fun _ h=>by cases h⟩)⟩) ?_;iterate 7 refine O0 ?_
  refine O4 I.1 ?_;refine O5 (v:=.int .i64 r) (fun wn j hp=>⟨_,_,by(skip;go_simp<;>with_reducible rfl),(((fun wn j=>I.2.1 wn j) wn j).mono fun e w' h=>⟨h.1,j.trans h.2,fun _ h=>by cases h⟩)⟩) ?_;iterate 4 refine O0 ?_
  iterate 6 refine O2 ?_
  iterate 2 refine O0 ?_
  iterate 9 refine O2 ?_
  refine O0 ?_;refine aG fun wt C hF=>?_;have HT:=oH C;clear C hF;simp only[dK];have HN:=oH (HA.2.2.trans HT.out);go_wp2_with fail;go_ret;exact⟨by rw[Y.out];rfl,HN.out⟩)
 obtain rfl:k=l.length:=by omega
 have HY:=oH (av (P:=cE p l) ⟨by omega,fun i y hy=>HA.2.1 i y (by obtain⟨h,_⟩:=lS.1 hy;exact h) hy⟩);go_wp2;go_ret;exact⟨by rw[HY.out];rfl,HA.2.2⟩
theorem ut (S:Nat→Prop)(v:Value)(p:aH)(w:World)(hv:dJ S w v p)(b7:xF p):
 Calls prog 40 #[v] w fun e w'=>e=.returned (.bool (pB (dD p)))∧aa All w w':=by
 have b8:=hv;obtain⟨a,b,c,d,rfl,h1,h2,h3,h4,h5⟩:=hv;have c9:=h1;have d7:=h2;obtain⟨a1,a8,rfl,k1,k2,k3,_⟩:=h1;obtain⟨a2,b0,rfl,m1,m2,m3,_⟩:=h2;unfold maxLen at k2 m2;have d8:aa All w (w.alloc (.cells #[.slice a1 p.MZ.length a8,.slice a2 p.up.length b0,c,d,.int .i64 p.Nc] 26)):=(aa.refl All w).alloc _;have d9:al (w.alloc (.cells #[.slice a1 p.MZ.length a8,.slice a2 p.up.length b0,c,d,.int .i64 p.Nc] 26)) w.heap.size 26 #[.slice a1 p.MZ.length a8,.slice a2 p.up.length b0,c,d,.int .i64 p.Nc]:=al.new _ _ _;have c3:=fun wn (I:aa All w wn)=>us S _ p.up wn (dU.keep I.all d7);have c5:=fun wn s (I:aa All w wn)=>AX S _ p s wn (cB.keep I.all b8);have e0:=fun wn (I:aa All w wn)=>pU S S _ _ p p.Nb wn (cB.keep I.all b8) (aX.keep I.all h3) b7.Nb;have c6:=fun wn (I:aa All w wn)=>pU S S _ _ p p.Na wn (cB.keep I.all b8) (aX.keep I.all h4) b7.Na;obtain⟨d1,d2⟩:=rs h5;have Y:=J7 c9 c5 e0 c6 d8 d9 b7;have b9:=oH c3;obtain⟨ai,e1,rfl,_⟩:=h3;obtain⟨ao,e2,rfl,_⟩:=h4;clear c9 d7 c5 e0 c6 d8 d9 c3 b8 h5 b7;go_enter func40,ntmps40;by_cases j:p.MZ.length=p.up.length;·(
 have i1:((p.MZ.length:Int) !=(p.up.length:Int))=false:=by simp[j]
 by_cases hL:ue p.up;·(
 have c8:=oH (av hL);by_cases e3:p.Nc<1
 ·have i6:decide (p.Nc<1)=true:=by simpa using e3
  have R:=oH (au (P:=dD p) fun h=>by have:=h.2.2.1;omega);have HE:=oH j;clear j hL;go_wp2_with (go_at_call 91;refine(b9.out _ Y.2.2.2.2.1).mono ?_;rw[c8.out];rintro e w1 ⟨rfl,J⟩;have C:=Y.2.2.2.2.2.1.kept J trivial;have c4:=C.cell 4;simp only[gc] at c4;have H1:=J2 J C;clear J C);go_ret;exact⟨by rw[R.out];rfl,Y.2.2.2.2.1.trans H1.1⟩
 have i6:decide (p.Nc<1)=false:=by simpa using e3
 by_cases e4:64<p.Nc
 ·have i7:decide (64<p.Nc)=true:=by simpa using e4
  have R:=oH (au (P:=dD p) fun h=>by have:=h.2.2.2.1;omega);have HE:=oH j;clear j hL;go_wp2_with (go_at_call 91;refine(b9.out _ Y.2.2.2.2.1).mono ?_;rw[c8.out];rintro e w1 ⟨rfl,J⟩;have C:=Y.2.2.2.2.2.1.kept J trivial;have c4:=C.cell 4;simp only[gc] at c4;have H1:=J2 J C;clear J C);go_ret;exact⟨by rw[R.out];rfl,Y.2.2.2.2.1.trans H1.1⟩
 have i7:decide (64<p.Nc)=false:=by simpa using e4
 have HP:Hid ((∀(i:Nat) s,p.MZ[i]? =some s→pk p i s)∧cE p p.Nb∧cE p p.Na↔dD p):=oH ⟨fun h=>⟨j,hL,by omega,by omega,h.1,h.2.1,h.2.2⟩,fun h=>⟨h.2.2.2.2.1,h.2.2.2.2.2.1,h.2.2.2.2.2.2⟩⟩;have HE:=oH j;clear j hL;go_wp2_with (go_at_call 91;refine(b9.out _ Y.2.2.2.2.1).mono ?_;rw[c8.out];rintro e w1 ⟨rfl,J⟩;have C:=Y.2.2.2.2.2.1.kept J trivial;have c4:=C.cell 4;have c0:=C.cell 0;simp only[gc] at c4 c0;have H1:=J2 J C;clear J C);clear c4 c0;go_loopg [3] p.MZ.length (fun g i wr=>∃k:Nat,k≤p.MZ.length∧g=p.MZ.length-k∧i=.int .i64 k∧aa All w1 wr∧∀(i:Nat) s,i<k→p.MZ[i]? =some s→pk p i s);·exact⟨0,by omega,by omega,rfl,kR,fun i s hi=>by omega⟩
 obtain⟨k,I,rfl,rfl,c1,c7⟩:=hrel;have e5:=(Y.2.2.2.2.1.trans H1.1).trans c1;have C:=H1.2.kept c1 trivial;obtain⟨j2,j3,j4,j5,j6⟩:=C.c5;have HA:=J4 c1 c7 e5 C;clear c1 c7 e5 C;by_cases e6:k<p.MZ.length;·(
 obtain⟨s,hs⟩:=eG e6;have a7:∀wn,aa All wr wn→∃bb o,a1=some ⟨bb,o,none⟩∧wn.cell? ⟨bb,o+k,none⟩=some (.string s):=fun wn c2=>by obtain⟨bb,o,e,_,hc⟩:=Bs (ax.keep (S:=S) (HA.2.2.1.trans c2).all Y.1) hs;exact⟨bb,o,e,hc⟩
 obtain⟨bb,o,rfl,_⟩:=a7 wr kR;have b1:∀wn,aa All wr wn→wn.cell? ⟨w.heap.size,0,none⟩=some (.slice (some ⟨bb,o,none⟩) p.MZ.length a8)∧wn.cell? ⟨w.heap.size,1,none⟩=some (.slice a2 p.up.length b0)∧wn.cell? ⟨w.heap.size,2,none⟩=some (.slice ai p.Nb.length e1)∧wn.cell? ⟨w.heap.size,3,none⟩=some (.slice ao p.Na.length e2)∧wn.cell? ⟨w.heap.size,4,none⟩=some (.int .i64 p.Nc)∧wn.cell? ⟨bb,o+k,none⟩=some (.string s):=fun wn c2=>by obtain⟨b',o',e,q⟩:=a7 wn c2;cases e;have b5:=HA.2.2.2.kept c2 trivial;exact⟨b5.cell 0,b5.cell 1,b5.cell 2,b5.cell 3,b5.cell 4,q⟩
 have j0:=kT (fun x:ByteArray=>x.toList==s.toList) p.MZ;rw[show gJ (fun x:ByteArray=>x.toList==s.toList) p.MZ=eZ p s from rfl] at j0;have e7:=fun wn (I:aa All wr wn)=>Y.2.1 wn s (HA.2.2.1.trans I);have b2:pk p k s↔aB s=true∧eZ p s=k:=Iff.rfl;have e8:=fun wn=>oA s wn (Y.2.2.2.2.2.2.MZ s (mG hs));generalize aB s=nm at*;generalize eZ p s=r at*;have HC:=J4 b1 e7 e8 hs;clear e7 e8 hs a7 b1;cases nm with
 |false=>
  have R:=oH (au (P:=dD p) fun h=>by have:=b2.1 ((HP.2 h).1 k s HC.2.2.2);exact Bool.noConfusion this.1);clear b2;go_wp2_with fail;refine R0 18 wr (fun i=>if i=5 then some (·=.bool false) else none) ?_;iterate 5 first|refine O4 HC.1 ?_|refine O0 ?_
  refine O5 (v:=.bool false) (fun wn I hp=>⟨_,_,by(skip;go_simp<;>with_reducible rfl),(((fun wn (_:aa All wr wn)=>HC.2.2.1 wn) wn I).mono fun e w' h=>⟨h.1,I.trans h.2,fun _ h=>by cases h⟩)⟩) ?_;iterate 2 refine O0 ?_
  iterate 9 refine O2 ?_
  refine O0 ?_;refine aG fun wt a6 hF=>?_;have HT:=oH a6;clear a6 hF;simp only[dK];have HN:=oH (HA.2.2.1.trans HT.out);go_wp2_with fail;go_ret;exact⟨by rw[R.out];rfl,HN.out⟩
 |true=>
  by_cases b3:r=(k:Int);·(
 have hx:(r !=(k:Int))=false:=by simpa using b3
 have e9:Hid (∀(i:Nat) t,i<k+1→p.MZ[i]? =some t→pk p i t):=oH fun i t hi ht=>by
  by_cases e:i=k;·subst e;rw[HC.2.2.2] at ht;cases ht;exact b2.2 ⟨rfl,b3⟩
  exact HA.2.1 i t (by omega) ht
 clear b2 b3;go_wp2_with fail;refine R0 18 wr (fun i=>if i=14 then some (·=.int .i64 r) else if i=5 then some (·=.bool true) else none) ?_;iterate 5 first|refine O4 HC.1 ?_|refine O0 ?_
 refine O5 (v:=.bool true) (fun wn I hp=>⟨_,_,by(skip;go_simp<;>with_reducible rfl),(((fun wn (_:aa All wr wn)=>HC.2.2.1 wn) wn I).mono fun e w' h=>⟨h.1,I.trans h.2,fun _ h=>by cases h⟩)⟩) ?_;iterate 8 first|refine O4 HC.1 ?_|refine O0 ?_
 refine O5 (v:=.int .i64 r) (fun wn I hp=>⟨_,_,by(skip;go_simp<;>with_reducible rfl),(((fun wn I=>HC.2.1 wn I) wn I).mono fun e w' h=>⟨h.1,I.trans h.2,fun _ h=>by cases h⟩)⟩) ?_;iterate 3 refine O0 ?_
 refine aG fun wt a6 hF=>?_;have HT:=oH a6;clear a6 hF;simp only[dK];have HN:=oH (HA.1.trans HT.out);go_wp2_with fail;go_roundg (p.MZ.length-(k+1));·exact⟨k+1,by omega,rfl,by go_num,HN.out,e9.out⟩
 omega)
  have hx:(r !=(k:Int))=true:=by simpa using b3
  have R:=oH (au (P:=dD p) fun h=>by have:=b2.1 ((HP.2 h).1 k s HC.2.2.2);exact b3 this.2);clear b2 b3;go_wp2_with fail;refine R0 18 wr (fun i=>if i=14 then some (·=.int .i64 r) else if i=5 then some (·=.bool true) else none) ?_;iterate 5 first|refine O4 HC.1 ?_|refine O0 ?_
  refine O5 (v:=.bool true) (fun wn I hp=>⟨_,_,by(skip;go_simp<;>with_reducible rfl),(((fun wn (_:aa All wr wn)=>HC.2.2.1 wn) wn I).mono fun e w' h=>⟨h.1,I.trans h.2,fun _ h=>by cases h⟩)⟩) ?_;iterate 8 first|refine O4 HC.1 ?_|refine O0 ?_
  refine O5 (v:=.int .i64 r) (fun wn I hp=>⟨_,_,by(skip;go_simp<;>with_reducible rfl),(((fun wn I=>HC.2.1 wn I) wn I).mono fun e w' h=>⟨h.1,I.trans h.2,fun _ h=>by cases h⟩)⟩) ?_;iterate 3 refine O0 ?_
  refine aG fun wt a6 hF=>?_;have HT:=oH a6;clear a6 hF;simp only[dK];have HN:=oH (HA.2.2.1.trans HT.out);go_wp2_with fail;go_ret;exact⟨by rw[R.out];rfl,HN.out⟩)
 obtain rfl:k=p.MZ.length:=by omega
 have b6:∀(i:Nat) s,p.MZ[i]? =some s→pk p i s:=fun i s hs=>HA.2.1 i s (lS.1 hs).1 hs;have h0:=oH (kC (P:=dD p) (Q:=cE p p.Nb∧cE p p.Na) ⟨fun h=>(HP.2 h).2,fun h=>HP.1 ⟨b6,h⟩⟩);have HX:=oH (AK (P:=cE p p.Nb) (Q:=cE p p.Na));have h6:=Y.2.2.1 wr HA.2.2.1;have h7:=Y.2.2.2.1;generalize pB (cE p p.Nb)=bi at*;generalize pB (cE p p.Na)=bo at*;have HC:=J2 h6 h7;clear h6 h7 b6 I e6;cases bi with
 |false=>go_wp2_with fail;refine HC.1.mono ?_;rintro e w2 ⟨rfl,b4⟩;have H2:=oH b4;clear b4;go_wp2_with fail;go_ret;exact⟨by rw[h0.out,HX.out];rfl,HA.2.2.1.trans H2.out⟩
 |true=>go_wp2_with fail;refine HC.1.mono ?_;rintro e w2 ⟨rfl,b4⟩;have h8:=HA.2.2.2.kept b4 trivial;obtain⟨j7,j8,j9,k0,k4⟩:=h8.c5;have H2:=oH (HA.2.2.1.trans b4);clear b4 h8;go_wp2_with fail;refine(HC.2 w2 H2.out).mono ?_;rintro e w3 ⟨rfl,h9⟩;have H3:=oH (H2.out.trans h9);clear h9;go_wp2_with fail;go_ret;exact⟨by rw[h0.out,HX.out,Bool.true_and];rfl,H3.out⟩)
 have j1:=oH (au hL);have R:=oH (au (P:=dD p) fun h=>hL h.2.1);have HE:=oH j;clear j hL;go_wp2_with (go_at_call 91;refine(b9.out _ Y.2.2.2.2.1).mono ?_;rw[j1.out];rintro e w1 ⟨rfl,J⟩;have H1:=oH J;clear J);go_ret;exact⟨by rw[R.out];rfl,Y.2.2.2.2.1.trans H1.out⟩)
 have i1:((p.MZ.length:Int) !=(p.up.length:Int))=true:=by simp;omega
 have R:=oH (au (P:=dD p) fun h=>j h.1);clear j;go_wp2_with fail;go_ret;exact⟨by rw[R.out];rfl,Y.2.2.2.2.1⟩
def bH (k:Nat):Value:=match cw k with
 |some (n,d,r,a)=>.tuple #[.int .i64 n,.bool d,.bool r,.bool a,.bool true]
 |none=>.tuple #[.int .i64 0,.bool false,.bool false,.bool false,.bool false]
theorem df (k:Nat)(w:World):Calls prog 148 #[.int .u8 k] w fun e w'=>e=.returned (bH k)∧w=w':=by
 by_cases o:k=1
 ·have t1:((k:Int)==1)=true:=by rw[cy];omega
  have j:=oH (show bH k=.tuple #[.int .i64 0,.bool true,.bool false,.bool false,.bool true] by rw[o];rfl);clear o;go_enter func148,ntmps148;go_wp2_with fail;refine bodyPost_ret (v:=bH k) (by rw[j.out];simp[results,Tryz.f148,go_sem]) rfl ⟨rfl,rfl⟩
 skip;by_cases C:k=2
 ·have t1:((k:Int)==1)=false:=by rw[bE];omega
  have t2:((k:Int)==2)=true:=by rw[cy];omega
  have j:=oH (show bH k=.tuple #[.int .i64 2,.bool true,.bool false,.bool false,.bool true] by rw[C];rfl);clear o C;go_enter func148,ntmps148;go_wp2_with fail;refine bodyPost_ret (v:=bH k) (by rw[j.out];simp[results,Tryz.f148,go_sem]) rfl ⟨rfl,rfl⟩
 skip;by_cases I:k=3
 ·have t1:((k:Int)==1)=false:=by rw[bE];omega
  have t2:((k:Int)==2)=false:=by rw[bE];omega
  have t3:((k:Int)==3)=true:=by rw[cy];omega
  have j:=oH (show bH k=.tuple #[.int .i64 8,.bool true,.bool false,.bool false,.bool true] by rw[I];rfl);clear o C I;go_enter func148,ntmps148;go_wp2_with fail;refine bodyPost_ret (v:=bH k) (by rw[j.out];simp[results,Tryz.f148,go_sem]) rfl ⟨rfl,rfl⟩
 skip;by_cases R:k=4
 ·have t1:((k:Int)==1)=false:=by rw[bE];omega
  have t2:((k:Int)==2)=false:=by rw[bE];omega
  have t3:((k:Int)==3)=false:=by rw[bE];omega
  have t4:((k:Int)==4)=true:=by rw[cy];omega
  have j:=oH (show bH k=.tuple #[.int .i64 1,.bool true,.bool true,.bool false,.bool true] by rw[R];rfl);clear o C I R;go_enter func148,ntmps148;go_wp2_with fail;refine bodyPost_ret (v:=bH k) (by rw[j.out];simp[results,Tryz.f148,go_sem]) rfl ⟨rfl,rfl⟩
 skip;by_cases Y:k=5;·(
 have t1:((k:Int)==1)=false:=by rw[bE];omega
 have t2:((k:Int)==2)=false:=by rw[bE];omega
 have t3:((k:Int)==3)=false:=by rw[bE];omega
 have t4:((k:Int)==4)=false:=by rw[bE];omega
 have t5:((k:Int)==5)=true:=by rw[cy];omega
 have j:=oH (show bH k=.tuple #[.int .i64 1,.bool true,.bool true,.bool false,.bool true] by rw[Y];rfl);clear o C I R Y;go_enter func148,ntmps148;go_wp2_with fail;refine bodyPost_ret (v:=bH k) (by rw[j.out];simp[results,Tryz.f148,go_sem]) rfl ⟨rfl,rfl⟩)
 skip;by_cases e6:k=6;·(
 have t1:((k:Int)==1)=false:=by rw[bE];omega
 have t2:((k:Int)==2)=false:=by rw[bE];omega
 have t3:((k:Int)==3)=false:=by rw[bE];omega
 have t4:((k:Int)==4)=false:=by rw[bE];omega
 have t5:((k:Int)==5)=false:=by rw[bE];omega
 have t6:((k:Int)==6)=true:=by rw[cy];omega
 have j:=oH (show bH k=.tuple #[.int .i64 2,.bool false,.bool true,.bool false,.bool true] by rw[e6];rfl);clear o C I R Y e6;go_enter func148,ntmps148;go_wp2_with fail;refine bodyPost_ret (v:=bH k) (by rw[j.out];simp[results,Tryz.f148,go_sem]) rfl ⟨rfl,rfl⟩)
 skip;by_cases e7:k=7;·(
 have t1:((k:Int)==1)=false:=by rw[bE];omega
 have t2:((k:Int)==2)=false:=by rw[bE];omega
 have t3:((k:Int)==3)=false:=by rw[bE];omega
 have t4:((k:Int)==4)=false:=by rw[bE];omega
 have t5:((k:Int)==5)=false:=by rw[bE];omega
 have t6:((k:Int)==6)=false:=by rw[bE];omega
 have t7:((k:Int)==7)=true:=by rw[cy];omega
 have j:=oH (show bH k=.tuple #[.int .i64 9,.bool true,.bool true,.bool false,.bool true] by rw[e7];rfl);clear o C I R Y e6 e7;go_enter func148,ntmps148;go_wp2_with fail;refine bodyPost_ret (v:=bH k) (by rw[j.out];simp[results,Tryz.f148,go_sem]) rfl ⟨rfl,rfl⟩)
 skip;by_cases e8:k=8;·(
 have t1:((k:Int)==1)=false:=by rw[bE];omega
 have t2:((k:Int)==2)=false:=by rw[bE];omega
 have t3:((k:Int)==3)=false:=by rw[bE];omega
 have t4:((k:Int)==4)=false:=by rw[bE];omega
 have t5:((k:Int)==5)=false:=by rw[bE];omega
 have t6:((k:Int)==6)=false:=by rw[bE];omega
 have t7:((k:Int)==7)=false:=by rw[bE];omega
 have t8:((k:Int)==8)=true:=by rw[cy];omega
 have j:=oH (show bH k=.tuple #[.int .i64 0,.bool true,.bool true,.bool false,.bool true] by rw[e8];rfl);clear o C I R Y e6 e7 e8;go_enter func148,ntmps148;go_wp2_with fail;refine bodyPost_ret (v:=bH k) (by rw[j.out];simp[results,Tryz.f148,go_sem]) rfl ⟨rfl,rfl⟩)
 skip;by_cases e9:k=9;·(
 have t1:((k:Int)==1)=false:=by rw[bE];omega
 have t2:((k:Int)==2)=false:=by rw[bE];omega
 have t3:((k:Int)==3)=false:=by rw[bE];omega
 have t4:((k:Int)==4)=false:=by rw[bE];omega
 have t5:((k:Int)==5)=false:=by rw[bE];omega
 have t6:((k:Int)==6)=false:=by rw[bE];omega
 have t7:((k:Int)==7)=false:=by rw[bE];omega
 have t8:((k:Int)==8)=false:=by rw[bE];omega
 have t9:((k:Int)==9)=true:=by rw[cy];omega
 have j:=oH (show bH k=.tuple #[.int .i64 1,.bool false,.bool true,.bool false,.bool true] by rw[e9];rfl);clear o C I R Y e6 e7 e8 e9;go_enter func148,ntmps148;go_wp2_with fail;refine bodyPost_ret (v:=bH k) (by rw[j.out];simp[results,Tryz.f148,go_sem]) rfl ⟨rfl,rfl⟩)
 skip;by_cases J:k=10;·(
 have t1:((k:Int)==1)=false:=by rw[bE];omega
 have t2:((k:Int)==2)=false:=by rw[bE];omega
 have t3:((k:Int)==3)=false:=by rw[bE];omega
 have t4:((k:Int)==4)=false:=by rw[bE];omega
 have t5:((k:Int)==5)=false:=by rw[bE];omega
 have t6:((k:Int)==6)=false:=by rw[bE];omega
 have t7:((k:Int)==7)=false:=by rw[bE];omega
 have t8:((k:Int)==8)=false:=by rw[bE];omega
 have t9:((k:Int)==9)=false:=by rw[bE];omega
 have t10:((k:Int)==10)=true:=by rw[cy];omega
 have j:=oH (show bH k=.tuple #[.int .i64 1,.bool true,.bool true,.bool false,.bool true] by rw[J];rfl);clear o C I R Y e6 e7 e8 e9 J;go_enter func148,ntmps148;go_wp2_with fail;refine bodyPost_ret (v:=bH k) (by rw[j.out];simp[results,Tryz.f148,go_sem]) rfl ⟨rfl,rfl⟩)
 skip;by_cases a1:k=11;·(
 have t1:((k:Int)==1)=false:=by rw[bE];omega
 have t2:((k:Int)==2)=false:=by rw[bE];omega
 have t3:((k:Int)==3)=false:=by rw[bE];omega
 have t4:((k:Int)==4)=false:=by rw[bE];omega
 have t5:((k:Int)==5)=false:=by rw[bE];omega
 have t6:((k:Int)==6)=false:=by rw[bE];omega
 have t7:((k:Int)==7)=false:=by rw[bE];omega
 have t8:((k:Int)==8)=false:=by rw[bE];omega
 have t9:((k:Int)==9)=false:=by rw[bE];omega
 have t10:((k:Int)==10)=false:=by rw[bE];omega
 have t11:((k:Int)==11)=true:=by rw[cy];omega
 have j:=oH (show bH k=.tuple #[.int .i64 0,.bool false,.bool true,.bool false,.bool true] by rw[a1];rfl);clear o C I R Y e6 e7 e8 e9 J a1;go_enter func148,ntmps148;go_wp2_with fail;refine bodyPost_ret (v:=bH k) (by rw[j.out];simp[results,Tryz.f148,go_sem]) rfl ⟨rfl,rfl⟩)
 skip;by_cases a6:k=12;·(
 have t1:((k:Int)==1)=false:=by rw[bE];omega
 have t2:((k:Int)==2)=false:=by rw[bE];omega
 have t3:((k:Int)==3)=false:=by rw[bE];omega
 have t4:((k:Int)==4)=false:=by rw[bE];omega
 have t5:((k:Int)==5)=false:=by rw[bE];omega
 have t6:((k:Int)==6)=false:=by rw[bE];omega
 have t7:((k:Int)==7)=false:=by rw[bE];omega
 have t8:((k:Int)==8)=false:=by rw[bE];omega
 have t9:((k:Int)==9)=false:=by rw[bE];omega
 have t10:((k:Int)==10)=false:=by rw[bE];omega
 have t11:((k:Int)==11)=false:=by rw[bE];omega
 have t12:((k:Int)==12)=true:=by rw[cy];omega
 have j:=oH (show bH k=.tuple #[.int .i64 1,.bool false,.bool true,.bool true,.bool true] by rw[a6];rfl);clear o C I R Y e6 e7 e8 e9 J a1 a6;go_enter func148,ntmps148;go_wp2_with fail;refine bodyPost_ret (v:=bH k) (by rw[j.out];simp[results,Tryz.f148,go_sem]) rfl ⟨rfl,rfl⟩)
 skip;by_cases a7:k=13;·(
 have t1:((k:Int)==1)=false:=by rw[bE];omega
 have t2:((k:Int)==2)=false:=by rw[bE];omega
 have t3:((k:Int)==3)=false:=by rw[bE];omega
 have t4:((k:Int)==4)=false:=by rw[bE];omega
 have t5:((k:Int)==5)=false:=by rw[bE];omega
 have t6:((k:Int)==6)=false:=by rw[bE];omega
 have t7:((k:Int)==7)=false:=by rw[bE];omega
 have t8:((k:Int)==8)=false:=by rw[bE];omega
 have t9:((k:Int)==9)=false:=by rw[bE];omega
 have t10:((k:Int)==10)=false:=by rw[bE];omega
 have t11:((k:Int)==11)=false:=by rw[bE];omega
 have t12:((k:Int)==12)=false:=by rw[bE];omega
 have t13:((k:Int)==13)=true:=by rw[cy];omega
 have j:=oH (show bH k=.tuple #[.int .i64 1,.bool false,.bool false,.bool false,.bool true] by rw[a7];rfl);clear o C I R Y e6 e7 e8 e9 J a1 a6 a7;go_enter func148,ntmps148;go_wp2_with fail;refine bodyPost_ret (v:=bH k) (by rw[j.out];simp[results,Tryz.f148,go_sem]) rfl ⟨rfl,rfl⟩)
 skip;have t1:((k:Int)==1)=false:=by rw[bE];omega
 have t2:((k:Int)==2)=false:=by rw[bE];omega
 have t3:((k:Int)==3)=false:=by rw[bE];omega
 have t4:((k:Int)==4)=false:=by rw[bE];omega
 have t5:((k:Int)==5)=false:=by rw[bE];omega
 have t6:((k:Int)==6)=false:=by rw[bE];omega
 have t7:((k:Int)==7)=false:=by rw[bE];omega
 have t8:((k:Int)==8)=false:=by rw[bE];omega
 have t9:((k:Int)==9)=false:=by rw[bE];omega
 have t10:((k:Int)==10)=false:=by rw[bE];omega
 have t11:((k:Int)==11)=false:=by rw[bE];omega
 have t12:((k:Int)==12)=false:=by rw[bE];omega
 have t13:((k:Int)==13)=false:=by rw[bE];omega
 have j:=oH (show bH k=.tuple #[.int .i64 0,.bool false,.bool false,.bool false,.bool false] by
  have:cw k=none:=by unfold cw;split<;>first|rfl|contradiction
  unfold bH;rw[this])
 clear o C I R Y e6 e7 e8 e9 J a1 a6 a7;go_enter func148,ntmps148;go_wp2_with fail;refine bodyPost_ret (v:=bH k) (by rw[j.out];simp[results,Tryz.f148,go_sem]) rfl ⟨rfl,rfl⟩
theorem GQ (k:Nat)(w:World):Calls prog 96 #[.int .u8 k] w fun e j=>e=.returned (.bool (decide (11≤k∧k≤13)))∧w=j:=by
 by_cases o:11≤k;·(
 by_cases C:k≤13
 ·have t1:decide ((11:Int)≤(k:Int))=true:=by simp;omega
  have t2:decide ((k:Int)≤13)=true:=by simp;omega
  rw[show decide (11≤k∧k≤13)=true by simp;omega];go_enter func96,ntmps96;go_wp2_with fail;go_ret;exact⟨rfl,rfl⟩
 have t1:decide ((11:Int)≤(k:Int))=true:=by simp;omega
 have t2:decide ((k:Int)≤13)=false:=by simp;omega
 rw[show decide (11≤k∧k≤13)=false by simp;omega];go_enter func96,ntmps96;go_wp2_with fail;go_ret;exact⟨rfl,rfl⟩)
 have t1:decide ((11:Int)≤(k:Int))=false:=by simp;omega
 rw[show decide (11≤k∧k≤13)=false by simp;omega];go_enter func96,ntmps96;go_wp2_with fail;go_ret;exact⟨rfl,rfl⟩
def MK (p:aH)(c:aE)(b:aw)(next:Int)(x:bz)(n:Int)(d r a:Bool):Prop:=x.dst=(if d=true then next else-1)∧(r=false→x.ref=0)∧(a=false→x.Ni=0)∧
 (x.kind≠1→x.num=0)∧(x.kind≠2→x.op=0)∧(x.kind=2→1≤x.op∧x.op≤12)∧(r=true→0≤x.ref∧x.ref<cW p c b x.kind)∧(a=true→0≤x.Ni∧x.Ni<b.Ng.length)∧
 (if x.kind=3 then x.Nh.length=x.args.length∧1≤x.Nh.length∧x.Nh.length≤64 else x.Nh=[]∧(x.args.length:Int)=if x.kind=7 then(c.Nf.getD x.ref.toNat ⟨0,0,[]⟩).params else n)∧
 (∀a∈x.args,0≤a∧a<b.vars)∧∀a∈x.Nh,0≤a∧a<b.Ng.length
theorem dY {p:aH}{c:aE}{b:aw}{next:Int}{x:bz}{n:Int}{d r a:Bool}(j:cw x.kind=some (n,d,r,a)):aT p c b next x↔MK p c b next x n d r a:=by
 constructor
 ·rintro⟨o,C,I,J,e,h⟩
  rw[j] at e;cases e;exact h
 exact fun h=>⟨n,d,r,a,j,h⟩
theorem Dz {p:aH}{c:aE}{b:aw}{next:Int}{x:bz}(j:cw x.kind=none):¬aT p c b next x:=by rintro⟨o,C,I,J,e,h⟩;rw[j] at e;cases e
theorem fu {x:bz}{n:Int}{d r a:Bool}(j:cw x.kind=some (n,d,r,a)):cz x=d:=by unfold cz;rw[j]
def fl (p:aH)(c:aE)(b:aw)(next:Int)(x:bz)(w:World)(e:Ending)(j:World):Prop:=∃(n:Int) (ok:Bool),e=.returned (.tuple #[.int .i64 n,.bool ok])∧ok=pB (aT p c b next x)∧(aT p c b next x→n=if cz x=true then next+1 else next)∧aa All w j
theorem fl.no {p:aH}{c:aE}{b:aw}{next:Int}{x:bz}{w j:World}{n:Int}(h:¬aT p c b next x)(o:aa All w j):fl p c b next x w (.returned (.tuple #[.int .i64 n,.bool false])) j:=
 ⟨n,false,rfl,(au h).symm,fun h'=>absurd h' h,o⟩
def qg (x:bz)(next:Int)(d r a:Bool):Prop:=x.dst=(if d=true then next else-1)∧(r=false→x.ref=0)∧(a=false→x.Ni=0)∧(x.kind≠1→x.num=0)∧(x.kind≠2→x.op=0)∧(x.kind=2→1≤x.op∧x.op≤12)
def Ie (p:aH)(c:aE)(b:aw)(x:bz)(r a:Bool):Prop:=(r=true→0≤x.ref∧x.ref<cW p c b x.kind)∧(a=true→0≤x.Ni∧x.Ni<b.Ng.length)
def jG (c:aE)(x:bz)(n:Int):Int:=if x.kind=7 then(c.Nf.getD x.ref.toNat ⟨0,0,[]⟩).params else n
def mM (c:aE)(x:bz)(n:Int):Prop:=if x.kind=3 then x.Nh.length=x.args.length∧1≤x.Nh.length∧x.Nh.length≤64 else x.Nh=[]∧(x.args.length:Int)=jG c x n
theorem aC {p:aH}{c:aE}{b:aw}{next:Int}{x:bz}{n:Int}{d r a:Bool}:MK p c b next x n d r a↔qg x next d r a∧Ie p c b x r a∧mM c x n∧(∀a∈x.args,0≤a∧a<b.vars)∧∀a∈x.Nh,0≤a∧a<b.Ng.length:=by unfold MK qg Ie mM jG;simp only[and_assoc]
theorem uv {k:Nat}{n:Int}{d r a:Bool}(h:cw k=some (n,d,r,a)):(k=1∧d=true∧r=false∧a=false)∨(k=2∧d=true∧r=false∧a=false)∨(k=3∧d=true∧r=false∧a=false)∨(k=7∧d=true∧r=true∧a=false)∨((k=4∨k=5∨k=8∨k=10)∧d=true∧r=true∧a=false)∨((k=6∨k=9∨k=11)∧d=false∧r=true∧a=false)∨(k=12∧d=false∧r=true∧a=true)∨(k=13∧d=false∧r=false∧a=false):=by unfold cw at h;split at h<;>first|(cases h;done)|(cases h;simp)
def Q23 (x:bz):Prop:=x.Nh.length=x.args.length∧1≤x.Nh.length∧x.Nh.length≤64
def Q25 (x:bz)(N:Int):Prop:=x.Nh=[]∧(x.args.length:Int)=N
theorem qad {E:Bool}{P:Prop}(h:E=true↔¬P):E=!pB P:=by
 by_cases j:P
 ·rw[av j];cases E
  ·rfl
  exact absurd j (h.1 rfl)
 rw[au j];exact h.2 j
theorem qah {x:bz}{next:Int}{d r a:Bool}:(d&&x.dst !=next||!d&&x.dst != -1||!r&&x.ref !=0||!a&&x.Ni !=0||(x.kind:Int) !=1&&x.num !=0||(x.kind:Int) !=2&&(x.op:Int) !=0||(x.kind:Int)==2&&(decide ((x.op:Int)<1)||decide (12<(x.op:Int))))=!pB (qg x next d r a):=
 qad (by unfold qg;cases d<;>cases r<;>cases a<;>simp<;>omega)
theorem qag {p:aH}{c:aE}{b:aw}{x:bz}{r a:Bool}:(r&&(decide (x.ref<0)||decide ((cW p c b x.kind:Int)≤x.ref))||a&&(decide (x.Ni<0)||decide ((b.Ng.length:Int)≤x.Ni)))=!pB (Ie p c b x r a):=
 qad (by unfold Ie;cases r<;>cases a<;>simp<;>omega)
theorem qai {x:bz}:((x.Nh.length:Int) !=x.args.length||decide ((x.Nh.length:Int)<1)||decide (64<(x.Nh.length:Int)))=!pB (Q23 x):=
 qad (by unfold Q23;simp;omega)
theorem qaj {x:bz}{N:Int}:((x.Nh.length:Int) !=0||(x.args.length:Int) !=N)=!pB (Q25 x N):=
 qad (by unfold Q25;rw[←List.length_eq_zero_iff];simp only[Bool.or_eq_true,bne_iff_ne,ne_eq];omega)
theorem JI (S:Nat→Prop)(pv cv bv _:Value)(p:aH)(c:aE)(b:aw)(x:bz)(next:Int)(w:World)(hp:dJ S w pv p)(hc:cQ S w cv c)(hb:bW S w bv b.Ng)(_h4:aV b.params)(_h5:aV b.vars)(a5 a6:Value)(c5:aK S w a5 x.args)(c6:aK S w a6 x.Nh)(hx:jx x)
 (h6: -1≤next∧next<4611686018427387904):
 Calls prog 95 #[pv,cv,.agg #[.int .i64 b.params,.int .i64 b.vars,bv],.agg #[.int .u8 x.kind,.int .u8 x.op,.int .i64 x.dst,.int .i64 x.ref,.int .i64 x.Ni,a5,a6,.int .i64 x.num,.int .i64 x.Nj],.int .i64 next] w (fl p c b next x w):=by
 obtain⟨j9,vu,vi,vo,rfl,h8,h9,i1,i6,i7⟩:=hp;obtain⟨a1,n1,rfl,l1,l2,_⟩:=h8;obtain⟨a2,n2,rfl,_⟩:=h9;obtain⟨a3,n3,rfl,l3,l4,_⟩:=i1;obtain⟨a4,n4,rfl,l5,l6,_⟩:=i6;obtain⟨ka,kf,rfl,j0,c7,j1⟩:=hc;have c8:=bV.la c7;obtain⟨A1,c1,rfl,m1,m2,_⟩:=j0;obtain⟨A2,c2,rfl,m3,m4,_⟩:=c7;obtain⟨B1,d1,rfl,m5,m6,_⟩:=hb;have c9:=ah.la c5;have d7:=ah.la c6;obtain⟨ua,uc,rfl,u1,u2,u3,_⟩:=c5;obtain⟨va,vc,rfl,v1,v2,v3,_⟩:=c6;unfold maxLen at*;obtain⟨W0,a8⟩:=eQ ((((w.alloc (.cells #[.slice a1 p.MZ.length n1,.slice a2 p.up.length n2,.slice a3 p.Nb.length n3,.slice a4 p.Na.length n4,.int .i64 p.Nc] 26)).alloc (.cells #[.slice A1 c.Nd.length c1,.slice A2 c.Nf.length c2,.int .i64 c.main] 30)).alloc (.cells #[.int .i64 b.params,.int .i64 b.vars,.slice B1 b.Ng.length d1] 35)).alloc (.cells #[.int .u8 x.kind,.int .u8 x.op,.int .i64 x.dst,.int .i64 x.ref,.int .i64 x.Ni,.slice ua x.args.length uc,.slice va x.Nh.length vc,.int .i64 x.num,.int .i64 x.Nj] 40));have d8:=aC4 a8;have bP:=aA3 a8;have bK:=aB2 a8 aE1;have bB:=aB1 a8 aE2;have bX:=aB0 a8 aE3;obtain⟨p0,p1,p2,p3,p4⟩:=bP.c5;obtain⟨k0,k1,k2⟩:=bK.c3;obtain⟨b0,b1,b2⟩:=bB.c3;obtain⟨x0,x1,x2,x3,x4,x5,x6,x7,x8⟩:=bX.c9;have Y:=J6 a8 d8 bP bK bB bX;have HP:=J4 c8 c9 d7 hx;clear a8 d8 bP bK bB bX c8 c9 d7 i7 j1;have k3:=hx.kind;have k4:=hx.op;clear hx;unfold aV at _h4 _h5;go_enter func95,ntmps95;go_upto_region 1 with fail;rw[←Y.1];have a7:=df x.kind W0;rcases hs:cw x.kind with _|⟨n,d,r,a⟩
 case none=>(unfold bH at a7;rw[hs] at a7;have HN:=oH (Dz (p:=p) (c:=c) (b:=b) (next:=next) hs);have b9:=oH a7;clear a7 hs;go_wp2_with fail;refine b9.out.mono ?_;rintro e w1 ⟨rfl,rfl⟩;go_upto_region 2 with fail;simp only[List.append];go_wp2_with fail;go_ret2;exact .no HN.out Y.2.1)
 unfold bH at a7;rw[hs] at a7;have HI:=J3 (dY (p:=p) (c:=c) (b:=b) (next:=next) hs) hs (fu hs);have b9:=oH a7;clear a7 hs;go_wp2_with fail;refine b9.out.mono ?_;rintro e w1 ⟨rfl,rfl⟩;go_upto_region 2 with fail;simp only[List.append];go_cut [101] (fun t wx=>t=.bool (!pB (qg x next d r a))∧wx=W0)
 case first=>as_aux_lemma=>
  refine wp_region_lit ?_;iterate 73 (first|refine gp ?_|refine gq ?_|refine gp2 ?_|refine gq2 ?_|refine gp1 ?_|refine gq1 ?_|refine g0 ?_|refine g2 ?_|refine g1 ?_)
  refine qae ?_
  apply_assumption
  refine Met.intro ?_
  apply_assumption
  repeat apply Exists.intro
  refine⟨?_,rfl⟩;refine⟨congrArg _ ?_,rfl⟩;exact qah
 case rest=>
 obtain⟨rfl,hw⟩:=hcut;have J:=hw.symm;subst J;by_cases R:qg x next d r a
 rotate_left
 ·rw[show(!pB (qg x next d r a))=true from by rw[au R];rfl];have HN:=oH (show¬aT p c b next x from fun h=>R ((aC.1 (HI.1.1 h)).1));clear R;go_wp2_with fail;go_ret2;exact .no HN.out Y.2.1
 rw[show(!pB (qg x next d r a))=false from by rw[av R];rfl];have HC:=oH R;clear R;go_upto_block 0 with fail;go_cut [17] (fun t wx=>t=.int .i64 (cW p c b x.kind)∧wx=W0)
 case first=>as_aux_lemma=>
  have hK:x.kind=4∨x.kind=5∨x.kind=6∨x.kind=7∨x.kind=8∨x.kind=9∨x.kind=10∨x.kind<4∨10<x.kind:=by omega
  have d9:x.kind<4∨10<x.kind→cW p c b x.kind=b.Ng.length:=fun h=>by unfold cW;repeat rw[ae (by omega)]
  rcases hK with h|h|h|h|h|h|h|h;all_goals(
   first|(have e4:((x.kind:Int)==4)=true:=by(rw[cy];omega))|(have e4:((x.kind:Int)==4)=false:=by(rw[bE];omega))
   first|(have e5:((x.kind:Int)==5)=true:=by(rw[cy];omega))|(have e5:((x.kind:Int)==5)=false:=by(rw[bE];omega))
   first|(have e6:((x.kind:Int)==6)=true:=by(rw[cy];omega))|(have e6:((x.kind:Int)==6)=false:=by(rw[bE];omega))
   first|(have e7:((x.kind:Int)==7)=true:=by(rw[cy];omega))|(have e7:((x.kind:Int)==7)=false:=by(rw[bE];omega))
   first|(have e8:((x.kind:Int)==8)=true:=by(rw[cy];omega))|(have e8:((x.kind:Int)==8)=false:=by(rw[bE];omega))
   first|(have e9:((x.kind:Int)==9)=true:=by(rw[cy];omega))|(have e9:((x.kind:Int)==9)=false:=by(rw[bE];omega))
   first|(have j2:((x.kind:Int)==10)=true:=by(rw[cy];omega))|(have j2:((x.kind:Int)==10)=false:=by(rw[bE];omega))
   have HM:=oH (by first|exact congrArg (cW p c b) h|exact d9 h);clear h d9;go_wp2_with fail;go_meet;exact⟨by rw[HM.out]<;>rfl,rfl⟩)
 case rest=>
 obtain⟨rfl,hw⟩:=hcut;have J:=hw.symm;subst J;obtain⟨M,hM⟩:=eR (cW p c b x.kind);rw[hM];have HM:=oH hM;clear hM;go_upto_region 18 with fail;go_cut [162] (fun t wx=>t=.bool (!pB (Ie p c b x r a))∧wx=W0)
 case first=>as_aux_lemma=>
  refine wp_region_lit ?_;iterate 28 (first|refine gp ?_|refine gq ?_|refine gp2 ?_|refine gq2 ?_|refine gp1 ?_|refine gq1 ?_|refine g0 ?_|refine g2 ?_|refine g1 ?_)
  refine qae ?_
  apply_assumption
  refine Met.intro ?_
  apply_assumption
  repeat apply Exists.intro
  refine⟨?_,rfl⟩;refine⟨congrArg _ ?_,rfl⟩;rw[←HM.out];exact qag
 case rest=>
 obtain⟨rfl,hw⟩:=hcut;have J:=hw.symm;subst J;by_cases R:Ie p c b x r a
 rotate_left
 ·rw[show(!pB (Ie p c b x r a))=true from by rw[au R];rfl];have HN:=oH (show¬aT p c b next x from fun h=>R ((aC.1 (HI.1.1 h)).2.1));clear R;go_wp2_with fail;go_ret2;exact .no HN.out Y.2.1
 rw[show(!pB (Ie p c b x r a))=false from by rw[av R];rfl];have e0:=oH R;clear R;go_upto_if 166 with fail;go_cut [12] (fun t wx=>t=.int .i64 (jG c x n)∧wx=W0)
 case first=>as_aux_lemma=>
  by_cases h7:x.kind=7;·(
 have e7:((x.kind:Int)==7)=true:=by(rw[cy];omega)
 have hm:=HM.out;rw[h7] at hm
 replace hm:c.Nf.length=M:=hm
 have hr:=e0.1 (by have:=uv HI.2.1;rw[h7] at this;simp at this;exact this.2.1);rw[HM.out,←hm] at hr;obtain⟨k,hk⟩:∃k:Nat,x.ref=k:=⟨x.ref.toNat,by omega⟩;obtain⟨g,hg⟩:∃g,c.Nf[k]? =some g:=⟨_,lG (by omega)⟩;have hN:jG c x n=g.params:=by unfold jG;rw[ap h7,hk,dP,iG,hg];rfl
 have k5:k<c.Nf.length:=by omega
 obtain⟨gb,go,k6,rfl,j3,e1,e2,gv,rfl,j4,j5,j6⟩:=aZ (HP.1 W0 Y.2.1) hg;have z0:=e2 0 _ rfl;rw[dj] at z0;have b3:=oH hN;rw[hk] at x3;clear hN hg e2 j4 j5 j6 e1 j3 hk hr hm h7;go_wp2_with fail;go_meet;exact⟨by rw[b3.out],rfl⟩)
  have e7:((x.kind:Int)==7)=false:=by(rw[bE];omega)
  have b3:=oH (show jG c x n=n from ae h7);clear h7;go_wp2_with fail;go_meet;exact⟨by rw[b3.out],rfl⟩
 case rest=>
 obtain⟨rfl,hw⟩:=hcut;have J:=hw.symm;subst J;obtain⟨N,hN⟩:=eR (jG c x n);rw[hN];have b3:=oH hN;clear hN;go_upto_if 176 with fail;go_cut [] (fun wx=>mM c x n∧wx=W0)
 case first=>as_aux_lemma=>
  by_cases h3:x.kind=3;·(
 have e3:((x.kind:Int)==3)=true:=by(rw[cy];omega)
 have H3:=oH h3;clear h3;go_upto_region 23 with fail;go_cut [195] (fun t wx=>t=.bool (!pB (Q23 x))∧wx=W0)
 case first=>as_aux_lemma=>
  refine wp_region_lit ?_;iterate 19 (first|refine gp ?_|refine gq ?_|refine gp2 ?_|refine gq2 ?_|refine gp1 ?_|refine gq1 ?_|refine g0 ?_|refine g2 ?_|refine g1 ?_)
  refine qae ?_
  apply_assumption
  refine Met.intro ?_
  apply_assumption
  repeat apply Exists.intro
  refine⟨?_,rfl⟩;refine⟨congrArg _ ?_,rfl⟩;exact qai
 case rest=>
 obtain⟨rfl,hw⟩:=hcut;have J:=hw.symm;subst J;by_cases R:Q23 x
 rotate_left
 ·rw[show(!pB (Q23 x))=true from by rw[au R];rfl];have HN:=oH (show¬aT p c b next x from fun h=>R (by have:=(aC.1 (HI.1.1 h)).2.2.1;unfold mM at this;rw[ap H3.out] at this;exact this));clear R;go_wp2_with fail;go_ret2;exact .no HN.out Y.2.1
 rw[show(!pB (Q23 x))=false from by rw[av R];rfl];have b4:=oH (show mM c x n by unfold mM;rw[ap H3.out];exact R);clear R;go_wp2_with fail;go_meet;exact⟨b4.out,rfl⟩)
  have e3:((x.kind:Int)==3)=false:=by(rw[bE];omega)
  have H3:=oH h3;clear h3;go_upto_region 25 with fail;go_cut [207] (fun t wx=>t=.bool (!pB (Q25 x N))∧wx=W0)
  case first=>as_aux_lemma=>
   refine wp_region_lit ?_;iterate 11 (first|refine gp ?_|refine gq ?_|refine gp2 ?_|refine gq2 ?_|refine gp1 ?_|refine gq1 ?_|refine g0 ?_|refine g2 ?_|refine g1 ?_)
   refine qae ?_
   apply_assumption
   refine Met.intro ?_
   apply_assumption
   repeat apply Exists.intro
   refine⟨?_,rfl⟩;refine⟨congrArg _ ?_,rfl⟩;exact qaj
  case rest=>
  obtain⟨rfl,hw⟩:=hcut;have J:=hw.symm;subst J;by_cases R:Q25 x N
  rotate_left
  ·rw[show(!pB (Q25 x N))=true from by rw[au R];rfl];have HN:=oH (show¬aT p c b next x from fun h=>R (by have:=(aC.1 (HI.1.1 h)).2.2.1;unfold mM at this;rw[ae H3.out,b3.out] at this;exact this));clear R;go_wp2_with fail;go_ret2;exact .no HN.out Y.2.1
  rw[show(!pB (Q25 x N))=false from by rw[av R];rfl];have b4:=oH (show mM c x n by unfold mM;rw[ae H3.out,b3.out];exact R);clear R;go_wp2_with fail;go_meet;exact⟨b4.out,rfl⟩
 case rest=>
 obtain⟨h0,hw⟩:=hcut;have J:=hw.symm;subst J;have b4:=oH h0;clear h0 hw;go_wp2_with fail;go_loopg [18] x.args.length (fun g s wr=>∃k:Nat,k≤x.args.length∧g=x.args.length-k∧s=.int .i64 k∧aa All W0 wr∧∀(i:Nat) a,i<k→x.args[i]? =some a→0≤a∧a<b.vars);·exact⟨0,by omega,by omega,rfl,kR,fun i a hi=>by omega⟩
 obtain⟨k,hk,rfl,rfl,C,I⟩:=hrel;clear x0 x1 x2 x3 x4 x5 x6 x7 x8 b0 b1 b2;have b5:=Y.2.2.2.2.2.kept C trivial;have b6:=Y.2.2.2.2.1.kept C trivial;obtain⟨x0,x1,x2,x3,x4,x5,x6,x7,x8⟩:=b5.c9;obtain⟨b0,b1,b2⟩:=b6.c3;clear b5 b6;by_cases c0:k<x.args.length;·(
 obtain⟨y,hy⟩:=eG c0;obtain⟨yb,yo,cc,rfl,c3,j7,rfl,c4⟩:=bn (HP.2.1 wr (Y.2.1.trans C)) hy;have HR:=J3 C I hy;clear C I hy c4 c3;by_cases g0:y<0
 ·have q0:decide (y<0)=true:=by simpa using g0
  have HN:=oH (show¬aT p c b next x from fun h=>by have:=(aC.1 (HI.1.1 h)).2.2.2.1 y (mG HR.2.2);omega);clear g0;go_wp2_with fail;go_quiet (fail);go_wp2_with fail;go_ret2;exact .no HN.out (Y.2.1.trans (HR.1.drewN _))
 have q0:decide (y<0)=false:=by simpa using g0
 by_cases g1:b.vars≤y
 ·have q1:decide (b.vars≤y)=true:=by simpa using g1
  have HN:=oH (show¬aT p c b next x from fun h=>by have:=(aC.1 (HI.1.1 h)).2.2.2.1 y (mG HR.2.2);omega);clear g0 g1;go_wp2_with fail;go_quiet (fail);go_wp2_with fail;go_ret2;exact .no HN.out (Y.2.1.trans (HR.1.drewN _))
 have q1:decide (b.vars≤y)=false:=by simpa using g1
 have HY:=oH (show 0≤y∧y<b.vars by omega);clear g0 g1;go_wp2_with fail;go_quiet (fail);go_wp2_with fail;go_roundg (x.args.length-(k+1))
 ·refine⟨k+1,by omega,rfl,by go_num,HR.1.drewN _,fun i z hi hz=>?_⟩
  by_cases e:i=k;·subst e;rw[HR.2.2] at hz;cases hz;exact HY.out
  exact HR.2.1 i z (by omega) hz
 omega)
 obtain rfl:k=x.args.length:=by omega
 have b7:∀a∈x.args,0≤a∧a<b.vars:=fun y hy=>by obtain⟨i,hi⟩:=cY.1 hy;exact I i y (lS.1 hi).1 hi
 have j8:=oH b7;clear I b7;go_wp2_with fail;go_loopg [19] x.Nh.length (fun g s wr=>∃k:Nat,k≤x.Nh.length∧g=x.Nh.length-k∧s=.int .i64 k∧aa All W0 wr∧∀(i:Nat) a,i<k→x.Nh[i]? =some a→0≤a∧a<(b.Ng.length:Int));·exact⟨0,by omega,by omega,rfl,C,fun i a hi=>by omega⟩
 obtain⟨k,hk,rfl,rfl,C,I⟩:=hrel;clear x0 x1 x2 x3 x4 x5 x6 x7 x8 b0 b1 b2;have b5:=Y.2.2.2.2.2.kept C trivial;have b6:=Y.2.2.2.2.1.kept C trivial;obtain⟨x0,x1,x2,x3,x4,x5,x6,x7,x8⟩:=b5.c9;obtain⟨b0,b1,b2⟩:=b6.c3;clear b5 b6;by_cases c0:k<x.Nh.length;·(
 obtain⟨y,hy⟩:=eG c0;obtain⟨yb,yo,cc,rfl,c3,j7,rfl,c4⟩:=bn (HP.2.2.1 wr (Y.2.1.trans C)) hy;have HR:=J3 C I hy;clear C I hy c4 c3;by_cases g0:y<0
 ·have q0:decide (y<0)=true:=by simpa using g0
  have HN:=oH (show¬aT p c b next x from fun h=>by have:=(aC.1 (HI.1.1 h)).2.2.2.2 y (mG HR.2.2);omega);clear g0;go_wp2_with fail;go_quiet (fail);go_wp2_with fail;go_ret2;exact .no HN.out (Y.2.1.trans (HR.1.drewN _))
 have q0:decide (y<0)=false:=by simpa using g0
 by_cases g1:(b.Ng.length:Int)≤y
 ·have q1:decide ((b.Ng.length:Int)≤y)=true:=by simpa using g1
  have HN:=oH (show¬aT p c b next x from fun h=>by have:=(aC.1 (HI.1.1 h)).2.2.2.2 y (mG HR.2.2);omega);clear g0 g1;go_wp2_with fail;go_quiet (fail);go_wp2_with fail;go_ret2;exact .no HN.out (Y.2.1.trans (HR.1.drewN _))
 have q1:decide ((b.Ng.length:Int)≤y)=false:=by simpa using g1
 have HY:=oH (show 0≤y∧y<(b.Ng.length:Int) by omega);clear g0 g1;go_wp2_with fail;go_quiet (fail);go_wp2_with fail;go_roundg (x.Nh.length-(k+1))
 ·refine⟨k+1,by omega,rfl,by go_num,HR.1.drewN _,fun i z hi hz=>?_⟩
  by_cases e:i=k;·subst e;rw[HR.2.2] at hz;cases hz;exact HY.out
  exact HR.2.1 i z (by omega) hz
 omega)
 obtain rfl:k=x.Nh.length:=by omega
 have b8:∀a∈x.Nh,0≤a∧a<(b.Ng.length:Int):=fun y hy=>by obtain⟨i,hi⟩:=cY.1 hy;exact I i y (lS.1 hi).1 hi
 have h1:=oH (show aT p c b next x from HI.1.2 (aC.2 ⟨HC.out,e0.out,b4.out,j8.out,b8⟩));have h2:=oH C;clear C I b8;rcases d with _|_;all_goals(go_wp2_with fail;go_ret2;first|exact⟨next,true,rfl,(av h1.out).symm,fun _=>by rw[HI.2.2];rfl,Y.2.1.trans h2.out⟩|exact⟨next+1,true,rfl,(av h1.out).symm,fun _=>by rw[HI.2.2];rfl,Y.2.1.trans h2.out⟩)
def JY (p:aH)(c:aE)(b:aw)(pre:List bz)(l:List bz)(k:Nat)(x:bz):Prop:=aT p c b (b.params+cj (pre++l.take k)) x∧((11≤x.kind∧x.kind≤13)↔k+1=l.length)∧(x.kind=3→0<k→∃y,l[k-1]? =some y∧y.kind=3)
def MJ (p:aH)(c:aE)(b:aw)(i:Nat)(l:List bz):Prop:=1≤l.length∧l.length≤4096∧∀(k:Nat) x,l[k]? =some x→JY p c b (b.Ng.take i).flatten l k x
def gX (p:aH)(c:aE)(b:aw):Prop:=qi p c b∧∀l∈b.Ng,l.length≤4096
theorem vd {α:Type}{L:List (List α)}{i k:Nat}{l:List α}(hi:L[i]? =some l)(j:k≤l.length):L.flatten.take ((L.take i).flatten.length+k)=(L.take i).flatten++l.take k:=by
 have e:L.flatten=(L.take i).flatten++(l++(L.drop (i+1)).flatten):=by rw[←List.flatten_cons,←List.flatten_append,←kE hi]
 rw[e,List.take_length_add_append,List.take_append_of_le_length j]
theorem dw (l m:List bz):cj (l++m)=cj l+cj m:=by rw[co,co,co,mE,iQ]
theorem vH {p:aH}{c:aE}{b:aw}{next:Int}{x:bz}(h:aT p c b next x):1≤x.kind∧x.kind≤13:=by obtain⟨n,d,r,a,e,_⟩:=h;unfold cw at e;split at e<;>first|(cases e;done)|omega|(rename_i j;rw[j];omega)
theorem CF {p:aH}{c:aE}{b:aw}:gX p c b↔(0≤b.params∧b.params≤6∧1≤b.Ng.length∧b.Ng.length≤64)∧(∀(i:Nat) l,b.Ng[i]? =some l→MJ p c b i l)∧b.vars=b.params+cj b.Ng.flatten:=by
 constructor;·(
 rintro⟨⟨h1,h2,h3,h4,h5,h6,h7⟩,h8⟩;refine⟨⟨h1,h2,h3,h4⟩,fun i l j=>?_,h7⟩;have hm:=mG j;obtain⟨s1,s2,s3⟩:=h5 l hm;refine⟨?_,h8 l hm,fun k x o=>?_⟩
 ·cases l
  ·simp at s1
  simp
 have C:=(lS.1 o).1;have R:=h6 _ x (lF j o);rw[vd j (by omega)] at R;have a6:=(vH R).2;have Y:(l.map fun x=>x.kind)[k]? =some x.kind:=by rw[cL,o];rfl
 have I:=s2 k x.kind Y;rw[ce] at I;refine⟨R,⟨fun h=>I.1 h.1,fun h=>⟨I.2 h,a6⟩⟩,fun a7 h0=>?_⟩;have a1:=s3 (k-1) (by rw[show k-1+1=k by omega,Y,a7]);rw[cL] at a1;obtain⟨y,hy,J⟩:=oE.1 a1;exact⟨y,hy,J⟩)
 rintro⟨⟨h1,h2,h3,h4⟩,h5,h7⟩;have hB:∀l∈b.Ng,∃i:Nat,MJ p c b i l:=fun l j=>by obtain⟨i,hi⟩:=cY.1 j;exact⟨i,h5 i l hi⟩
 refine⟨⟨h1,h2,h3,h4,fun l j=>?_,fun n x o=>?_,h7⟩,fun l j=>?_⟩;·(
 obtain⟨i,hb⟩:=hB l j;refine⟨?_,fun k kd C=>?_,fun k C=>?_⟩
 ·intro e
  have:=hb.1;have h0:l=[]:=by simpa using e
  rw[h0] at this;simp at this
 ·rw[cL] at C;obtain⟨x,o,rfl⟩:=oE.1 C;have ha:=hb.2.2 k x o;rw[ce,←ha.2.1];have:=(vH ha.1).2;omega
 rw[cL] at C;obtain⟨x,o,a8⟩:=oE.1 C;obtain⟨y,hy,J⟩:=(hb.2.2 (k+1) x o).2.2 a8 (by omega);rw[cL,show l[k]? =some y by simpa using hy];exact congrArg some J)
 ·obtain⟨i,k,l,hi,C,rfl⟩:=pF o
  have R:=((h5 i l hi).2.2 k x C).1;rw[vd hi (by have:=(lS.1 C).1;omega)];exact R
 obtain⟨i,hb⟩:=hB l j;exact hb.2.1
def rH (p:aH)(c:aE)(b:aw)(w:World)(e:Ending)(j:World):Prop:=∃(n:Int) (ok:Bool),e=.returned (.tuple #[.int .i64 n,.bool ok])∧ok=pB (gX p c b)∧(gX p c b→n=ft b)∧(0≤n∧n≤1000000)∧aa All w j
theorem rH.no {p:aH}{c:aE}{b:aw}{w j:World}(h:¬gX p c b)(o:aa All w j):rH p c b w (.returned (.tuple #[.int .i64 0,.bool false])) j:=
 ⟨0,false,rfl,(au h).symm,fun h'=>absurd h' h,by omega,o⟩
theorem xW (l:List bz):cj l≤l.length:=by rw[co];exact List.length_filter_le _ _
theorem IN {L:List (List bz)}{m:Nat}(h:∀l∈L,l.length≤m):L.flatten.length≤L.length*m:=by
 induction L with
 |nil=>simp
 |cons a L j=>have:=j fun l o=>h l (List.mem_cons_of_mem _ o);have:=h a (List.mem_cons_self ..);rw[List.flatten_cons,iQ,kI,Nat.succ_mul];omega
theorem DN (S:Nat→Prop)(pv cv bv:Value)(p:aH)(c:aE)(b:aw)(w:World)(hp:dJ S w pv p)(hc:cQ S w cv c)(hb:bW S w bv b.Ng)(c7:aV b.params)(c8:aV b.vars):
 Calls prog 41 #[pv,cv,.agg #[.int .i64 b.params,.int .i64 b.vars,bv]] w (rH p c b w):=by
 have d7:=cB.la hp;have d8:=dc.la hc;have d9:=bg.la hb;obtain⟨n0,vu,vi,vo,rfl,j6,j7,j8,j9,k3⟩:=hp;obtain⟨a1,n1,rfl,_⟩:=j6;obtain⟨a2,n2,rfl,_⟩:=j7;obtain⟨a3,n3,rfl,_⟩:=j8;obtain⟨a4,n4,rfl,_⟩:=j9;obtain⟨ka,kf,rfl,k4,k5,k6⟩:=hc;obtain⟨A1,c1,rfl,_⟩:=k4;obtain⟨A2,c2,rfl,_⟩:=k5;obtain⟨B1,d1,rfl,m5,m6,m7,_⟩:=hb;unfold maxLen at*;obtain⟨W0,b7⟩:=eQ (((w.alloc (.cells #[.slice a1 p.MZ.length n1,.slice a2 p.up.length n2,.slice a3 p.Nb.length n3,.slice a4 p.Na.length n4,.int .i64 p.Nc] 26)).alloc (.cells #[.slice A1 c.Nd.length c1,.slice A2 c.Nf.length c2,.int .i64 c.main] 30)).alloc (.cells #[.int .i64 b.params,.int .i64 b.vars,.slice B1 b.Ng.length d1] 35));have h4:=aC3 b7;have bP:=aA2 b7;have bK:=aB1 b7 aE1;have bB:=aB0 b7 aE2;obtain⟨p0,p1,p2,p3,p4⟩:=bP.c5;obtain⟨k0,k1,k2⟩:=bK.c3;obtain⟨b0,b1,b2⟩:=bB.c3;have HW:=J5 b7 h4 bP bK bB;have HP:=J5 d7 d8 d9 c7 c8;have HI:=oH (CF (p:=p) (c:=c) (b:=b));clear b7 h4 bP bK bB d7 d8 d9 k3 k6;unfold aV at c7 c8;go_enter func41,ntmps41;go_upto_region 1 with fail;rw[←HW.1];by_cases h0:0≤b.params;·(
 have s0:decide (b.params<0)=false:=by simp;omega
 by_cases h1:b.params≤6;·(
 have s1:decide (6<b.params)=false:=by simp;omega
 by_cases h2:1≤b.Ng.length;·(
 have s2:decide ((b.Ng.length:Int)<1)=false:=by simp;omega
 by_cases h3:b.Ng.length≤64;·(
 have s3:decide ((64:Int)<(b.Ng.length:Int))=false:=by simp;omega
 go_wp2_with fail;go_loopg [8,9,10] b.Ng.length (fun g s8 s9 k7 wr=>∃j:Nat,j≤b.Ng.length∧g=b.Ng.length-j∧k7=.int .i64 j∧s8=.int .i64 (b.params+cj (b.Ng.take j).flatten)∧s9=.int .i64 (b.Ng.take j).flatten.length∧aa All W0 wr∧∀(i:Nat) l,i<j→b.Ng[i]? =some l→MJ p c b i l);·exact⟨0,by omega,by omega,rfl,by rw[List.take_zero,List.flatten_nil,show cj []=0 from rfl]<;>simp,by rw[List.take_zero];rfl,kR,fun i l hi=>by omega⟩
 obtain⟨j,hj,rfl,rfl,rfl,rfl,a7,Y⟩:=hrel;clear p0 p1 p2 p3 p4 k0 k1 k2 b0 b1 b2;have h5:=HW.2.2.2.2.kept a7 trivial;obtain⟨b0,b1,b2⟩:=h5.c3;clear h5;have h6:(b.Ng.take j).flatten.length≤64*4096:=by
  have h1:=IN (L:=b.Ng.take j) (m:=4096) fun l hl=>by(
 obtain⟨i,hi⟩:=cY.1 hl;have h7:i<j:=by have:=(lS.1 hi).1;rw[fN] at this;omega
 rw[rY h7] at hi;exact(Y i l h7 hi).2.1)
  rw[fN] at h1;have:min j b.Ng.length*4096≤64*4096:=Nat.mul_le_mul_right _ (by omega);omega
 have h8:=xW (b.Ng.take j).flatten;obtain⟨R,b5⟩:=eR ((b.Ng.take j).flatten);rw[b5] at h6 h8⊢;obtain⟨dn,c3⟩:=eR (cj R);obtain⟨pl,b8⟩:=eR (R.length);rw[c3,b8] at h8⊢;rw[b8] at h6;by_cases k8:j<b.Ng.length;·(
 obtain⟨l,hl⟩:=eG k8;obtain⟨rb,ro,rv,rfl,k9,n5,h9⟩:=bn (HP.2.2.1 wr (HW.2.1.trans a7)) hl;have i1:=cT.la h9;obtain⟨LA,lc,rfl,l1,l2,l3,_⟩:=h9;unfold maxLen at l2;have I:=J7 a7 Y b5 c3 b8 hl i1;clear a7 Y b5 c3 b8 hl i1 k9;by_cases g0:l.length=0
 ·have q0:((l.length:Int)==0)=true:=by rw[cy];omega
  have HN:=oH (show¬gX p c b from fun h=>by have h:=HI.1 h;have:=(h.2.1 j l I.2.2.2.2.2.1).1;omega);clear g0;go_wp2_with fail;go_ret2;exact .no HN.out (HW.2.1.trans I.1)
 have q0:((l.length:Int)==0)=false:=by rw[bE];omega
 by_cases g1:4096<l.length
 ·have q1:decide ((4096:Int)<(l.length:Int))=true:=by simp;omega
  have HN:=oH (show¬gX p c b from fun h=>by have h:=HI.1 h;have:=(h.2.1 j l I.2.2.2.2.2.1).2.1;omega);clear g0 g1;go_wp2_with fail;go_ret2;exact .no HN.out (HW.2.1.trans I.1)
 have q1:decide ((4096:Int)<(l.length:Int))=false:=by simp;omega
 obtain⟨wo,rfl⟩:=eQ wr;go_wp2_with fail;go_loopg [8,9,12] l.length (fun g s8 s9 l0 wr=>∃k:Nat,k≤l.length∧g=l.length-k∧l0=.int .i64 k∧s8=.int .i64 (b.params+dn+cj (l.take k))∧s9=.int .i64 (pl+k)∧aa All wo wr∧∀(i:Nat) x,i<k→l[i]? =some x→JY p c b R l i x);·exact⟨0,by omega,by omega,rfl,by rw[List.take_zero,show cj []=0 from rfl]<;>simp,by simp,kR,fun i l hi=>by omega⟩
 obtain⟨k,C,rfl,rfl,rfl,rfl,a7,Y⟩:=hrel;have J:=I.1.trans a7;clear b0 b1 b2;have i6:=xW (l.take k);rw[fN] at i6;obtain⟨dk,b6⟩:=eR (cj (l.take k));rw[b6] at i6⊢;by_cases i7:k<l.length;·(
 obtain⟨x,hx⟩:=eG i7;have hV:=I.2.2.2.2.2.2 wr a7;obtain⟨xb,xo,n7,rfl,n8,m9,b4,xa,xf,rfl,j0,j1,j2⟩:=aZ hV hx;have j3:=ah.la j0;have j4:=ah.la j1;obtain⟨ua,uc,rfl,_⟩:=j0;obtain⟨va,vc,rfl,_⟩:=j1;have HF:=oH (show∀wn,aa All wr wn→wn.cell? ⟨w.heap.size,0,none⟩=some (.slice a1 p.MZ.length n1)∧wn.cell? ⟨w.heap.size,1,none⟩=some (.slice a2 p.up.length n2)∧wn.cell? ⟨w.heap.size,2,none⟩=some (.slice a3 p.Nb.length n3)∧wn.cell? ⟨w.heap.size,3,none⟩=some (.slice a4 p.Na.length n4)∧wn.cell? ⟨w.heap.size,4,none⟩=some (.int .i64 p.Nc)∧wn.cell? ⟨w.heap.size+1,0,none⟩=some (.slice A1 c.Nd.length c1)∧wn.cell? ⟨w.heap.size+1,1,none⟩=some (.slice A2 c.Nf.length c2)∧wn.cell? ⟨w.heap.size+1,2,none⟩=some (.int .i64 c.main)∧wn.cell? ⟨w.heap.size+1+1,0,none⟩=some (.int .i64 b.params)∧wn.cell? ⟨w.heap.size+1+1,1,none⟩=some (.int .i64 b.vars)∧wn.cell? ⟨w.heap.size+1+1,2,none⟩=some (.slice (some ⟨rb,ro,none⟩) b.Ng.length d1)∧wn.cell? ⟨xb,xo+k*9,none⟩=some (.int .u8 x.kind)∧wn.cell? ⟨xb,xo+k*9+1,none⟩=some (.int .u8 x.op)∧wn.cell? ⟨xb,xo+k*9+2,none⟩=some (.int .i64 x.dst)∧wn.cell? ⟨xb,xo+k*9+3,none⟩=some (.int .i64 x.ref)∧wn.cell? ⟨xb,xo+k*9+4,none⟩=some (.int .i64 x.Ni)∧wn.cell? ⟨xb,xo+k*9+5,none⟩=some (.slice ua x.args.length uc)∧wn.cell? ⟨xb,xo+k*9+6,none⟩=some (.slice va x.Nh.length vc)∧wn.cell? ⟨xb,xo+k*9+7,none⟩=some (.int .i64 x.num)∧wn.cell? ⟨xb,xo+k*9+8,none⟩=some (.int .i64 x.Nj) from fun wn C=>
  ⟨(HW.2.2.1.kept (J.trans C) trivial).cell 0,(HW.2.2.1.kept (J.trans C) trivial).cell 1,(HW.2.2.1.kept (J.trans C) trivial).cell 2,(HW.2.2.1.kept (J.trans C) trivial).cell 3,(HW.2.2.1.kept (J.trans C) trivial).cell 4,(HW.2.2.2.1.kept (J.trans C) trivial).cell 0,(HW.2.2.2.1.kept (J.trans C) trivial).cell 1,(HW.2.2.2.1.kept (J.trans C) trivial).cell 2,(HW.2.2.2.2.kept (J.trans C) trivial).cell 0,(HW.2.2.2.2.kept (J.trans C) trivial).cell 1,(HW.2.2.2.2.kept (J.trans C) trivial).cell 2,C.cell (p:=⟨xb,xo+k*9,none⟩) trivial (by have:=b4 0 _ rfl;rw[dj] at this;exact this),C.cell (p:=⟨xb,xo+k*9+1,none⟩) trivial (by have:=b4 1 _ rfl;exact this),C.cell (p:=⟨xb,xo+k*9+2,none⟩) trivial (by have:=b4 2 _ rfl;exact this),C.cell (p:=⟨xb,xo+k*9+3,none⟩) trivial (by have:=b4 3 _ rfl;exact this),C.cell (p:=⟨xb,xo+k*9+4,none⟩) trivial (by have:=b4 4 _ rfl;exact this),C.cell (p:=⟨xb,xo+k*9+5,none⟩) trivial (by have:=b4 5 _ rfl;exact this),C.cell (p:=⟨xb,xo+k*9+6,none⟩) trivial (by have:=b4 6 _ rfl;exact this),C.cell (p:=⟨xb,xo+k*9+7,none⟩) trivial (by have:=b4 7 _ rfl;exact this),C.cell (p:=⟨xb,xo+k*9+8,none⟩) trivial (by have:=b4 8 _ rfl;exact this)⟩)
 have j5:=oH (show∀y,0<k→l[k-1]? =some y→∀wn,aa All wr wn→wn.cell? ⟨xb,xo+(k-1)*9,none⟩=some (.int .u8 y.kind) from fun y _ hy wn C=>by obtain⟨b',o',n9,he,_,_,l4,a',f',rfl,_⟩:=aZ hV hy;injection he with he;injection he with l5 l6;subst l5 l6;have:=l4 0 _ rfl;rw[dj] at this;exact C.cell trivial this);have HC:=oH (fun wn (C:aa All wr wn)=>JI S _ _ (.slice (some ⟨rb,ro,none⟩) b.Ng.length d1) undef p c b x (b.params+dn+dk) wn (HP.1 wn (HW.2.1.trans (J.trans C))) (HP.2.1 wn (HW.2.1.trans (J.trans C))) (HP.2.2.1 wn (HW.2.1.trans (J.trans C))) HP.2.2.2.1 HP.2.2.2.2 _ _ (j3 wn C) (j4 wn C) j2 (by omega));have o:=J5 J Y b6 hx a7;clear a7 J Y b6 hx hV j3 j4 b4 j2;go_wp2_with fail;by_cases b3:aT p c b (b.params+dn+dk) x;·(
 have a8:=oH b3;obtain⟨nx,a6⟩:∃nx,(if cz x=true then b.params+dn+dk+1 else b.params+dn+dk)=nx:=⟨_,rfl⟩;have l7:=oH (fun wn (C:aa All wr wn)=>(HC.out wn C).mono (R':=fun e wq=>e=.returned (.tuple #[.int .i64 nx,.bool true])∧aa All wn wq) (by rintro e wq ⟨n,ok,rfl,hb,hn,c4⟩;rw[av a8.out] at hb;subst hb;exact⟨by rw[hn a8.out,a6],c4⟩));have b9:=oH a6;clear a6;refine R0 14 wr (fun i=>if i=8 then some (·=.tuple #[.int .i64 nx,.bool true]) else none) ?_;iterate 8 first|refine O4 HF.out ?_|refine O0 ?_
 refine O5 (v:=.tuple #[.int .i64 nx,.bool true]) (fun wn C hp=>⟨_,_,by(skip;go_simp<;>with_reducible rfl),((l7.out wn C).mono fun e w' h=>⟨h.1,C.trans h.2,fun _ h=>by cases h⟩)⟩) ?_;iterate 5 refine O0 ?_
 refine aG fun wt c5 hF=>?_;have HT:=oH c5;clear c5 hF;simp only[dK];obtain⟨_,_,_,_,_,_,_,_,_,_,_,c0,_,_,_,_,_,_,_,_⟩:=HF.out wt HT.out;have HE:=oH (fun wn=>GQ x.kind wn);by_cases e1:11≤x.kind∧x.kind≤13;·(
 rw[bL e1] at HE;by_cases e2:k+1=l.length;·(
 have te:((k:Int)==(l.length:Int)-1)=true:=by rw[cy];omega
 by_cases g2:x.kind=3;·(
 have t3:=yK x.kind 3 (by omega);by_cases g3:0<k;·(
 obtain⟨y,hy⟩:∃y,l[k-1]? =some y:=⟨_,lG (by omega)⟩;have c9:=j5.out y g3 hy wt HT.out;obtain⟨m,rfl⟩:∃m,k=m+1:=⟨k-1,by omega⟩;rw[Nat.add_sub_cancel] at c9 hy;have tz:decide ((0:Int)<(m:Int)+1)=true:=by simp<;>omega
 have l8:((m:Int)+1==(l.length:Int)-1)=true:=by rw[cy]<;>omega
 have tm:m<l.length:=by omega
 have tw:IntKind.i64.wrap (m:Int)=(m:Int):=by rw[IntKind.wrap_i64];omega
 by_cases g4:y.kind=3;·(
 have tp:=wK y.kind 3 (by omega);have HY:=oH (show JY p c b R l (m+1) x from⟨by rw[show b.params+(cj (R++l.take (m+1)):Int)=b.params+dn+dk from by rw[dw,I.2.2.2.1,o.2.2.1];omega];exact a8.out,⟨fun _=>e2,fun _=>e1⟩,fun _ _=>⟨y,by simpa using hy,g4⟩⟩);clear b3 g2 g4 hy e1 e2;go_wp2_with (go_at_call 96;refine(HE.out _).mono ?_;rintro e w4 ⟨rfl,rfl⟩);go_roundg (l.length-(m+1+1))
 ·have a6:nx=b.params+dn+cj (l.take (m+1+1)):=by(
 rw[←b9.out,cU,o.2.2.2.1,dw,o.2.2.1];by_cases hf:cz x=true;·rw[ap hf,show cj (some x).toList=1 by rw[co];simp[hf]];omega
 rw[ae hf,show cj (some x).toList=0 by rw[co];simp[hf]];omega)
  refine⟨m+1+1,by omega,rfl,by go_num,by rw[a6],by go_num,o.2.2.2.2.trans HT.out,fun i z hi hz=>?_⟩;by_cases e:i=m+1;·subst e;rw[o.2.2.2.1] at hz;cases hz;exact HY.out
  exact o.2.1 i z (by omega) hz
 omega)
 have tp:=mK y.kind 3 (by omega);have HN:=oH (show¬gX p c b from fun h=>by have h:=((HI.1 h).2.1 j l I.2.2.2.2.2.1).2.2 (m+1) x o.2.2.2.1;rw[I.2.2.1] at h;obtain⟨z,hz,c6⟩:=h.2.2 g2 g3;rw[Nat.add_sub_cancel,hy] at hz;cases hz;exact g4 c6);clear b3 g2 g4 hy e1 e2;go_wp2_with (go_at_call 96;refine(HE.out _).mono ?_;rintro e w4 ⟨rfl,rfl⟩);go_ret2;exact .no HN.out (HW.2.1.trans (o.1.trans HT.out)))
 have tz:decide ((0:Int)<(k:Int))=false:=by simp;omega
 have l9:decide (0<k)=false:=by simp;omega
 have HY:=oH (show JY p c b R l k x from⟨by rw[show b.params+(cj (R++l.take k):Int)=b.params+dn+dk from by rw[dw,I.2.2.2.1,o.2.2.1];omega];exact a8.out,⟨fun _=>e2,fun _=>e1⟩,fun _ h=>absurd h g3⟩);clear b3 g2 g3 e1 e2;go_wp2_with (go_at_call 96;refine(HE.out _).mono ?_;rintro e w4 ⟨rfl,rfl⟩);go_roundg (l.length-(k+1))
 ·have a6:nx=b.params+dn+cj (l.take (k+1)):=by(
 rw[←b9.out,cU,o.2.2.2.1,dw,o.2.2.1];by_cases hf:cz x=true;·rw[ap hf,show cj (some x).toList=1 by rw[co];simp[hf]];omega
 rw[ae hf,show cj (some x).toList=0 by rw[co];simp[hf]];omega)
  refine⟨k+1,by omega,rfl,by go_num,by rw[a6],by go_num,o.2.2.2.2.trans HT.out,fun i z hi hz=>?_⟩;by_cases e:i=k;·subst e;rw[o.2.2.2.1] at hz;cases hz;exact HY.out
  exact o.2.1 i z (by omega) hz
 omega)
 have t3:=nK x.kind 3 (by omega);have HY:=oH (show JY p c b R l k x from⟨by rw[show b.params+(cj (R++l.take k):Int)=b.params+dn+dk from by rw[dw,I.2.2.2.1,o.2.2.1];omega];exact a8.out,⟨fun _=>e2,fun _=>e1⟩,fun h=>absurd h g2⟩);clear b3 g2 e1 e2;go_wp2_with (go_at_call 96;refine(HE.out _).mono ?_;rintro e w4 ⟨rfl,rfl⟩);go_roundg (l.length-(k+1))
 ·have a6:nx=b.params+dn+cj (l.take (k+1)):=by(
 rw[←b9.out,cU,o.2.2.2.1,dw,o.2.2.1];by_cases hf:cz x=true;·rw[ap hf,show cj (some x).toList=1 by rw[co];simp[hf]];omega
 rw[ae hf,show cj (some x).toList=0 by rw[co];simp[hf]];omega)
  refine⟨k+1,by omega,rfl,by go_num,by rw[a6],by go_num,o.2.2.2.2.trans HT.out,fun i z hi hz=>?_⟩;by_cases e:i=k;·subst e;rw[o.2.2.2.1] at hz;cases hz;exact HY.out
  exact o.2.1 i z (by omega) hz
 omega)
 have te:((k:Int)==(l.length:Int)-1)=false:=by rw[bE];omega
 have HN:=oH (show¬gX p c b from fun h=>by have h:=((HI.1 h).2.1 j l I.2.2.2.2.2.1).2.2 k x o.2.2.2.1;rw[I.2.2.1] at h;exact e2 (h.2.1.1 e1));go_wp2_with (go_at_call 96;refine(HE.out _).mono ?_;rintro e w4 ⟨rfl,rfl⟩);go_ret2;exact .no HN.out (HW.2.1.trans (o.1.trans HT.out)))
 rw[cI e1] at HE;by_cases e2:k+1=l.length
 ·have te:((k:Int)==(l.length:Int)-1)=true:=by rw[cy];omega
  have HN:=oH (show¬gX p c b from fun h=>by have h:=((HI.1 h).2.1 j l I.2.2.2.2.2.1).2.2 k x o.2.2.2.1;rw[I.2.2.1] at h;exact e1 (h.2.1.2 e2));go_wp2_with (go_at_call 96;refine(HE.out _).mono ?_;rintro e w4 ⟨rfl,rfl⟩);go_ret2;exact .no HN.out (HW.2.1.trans (o.1.trans HT.out))
 have te:((k:Int)==(l.length:Int)-1)=false:=by rw[bE];omega
 by_cases g2:x.kind=3;·(
 have t3:=yK x.kind 3 (by omega);by_cases g3:0<k;·(
 obtain⟨y,hy⟩:∃y,l[k-1]? =some y:=⟨_,lG (by omega)⟩;have c9:=j5.out y g3 hy wt HT.out;obtain⟨m,rfl⟩:∃m,k=m+1:=⟨k-1,by omega⟩;rw[Nat.add_sub_cancel] at c9 hy;have tz:decide ((0:Int)<(m:Int)+1)=true:=by simp<;>omega
 have l8:((m:Int)+1==(l.length:Int)-1)=false:=by rw[bE]<;>omega
 have tm:m<l.length:=by omega
 have tw:IntKind.i64.wrap (m:Int)=(m:Int):=by rw[IntKind.wrap_i64];omega
 by_cases g4:y.kind=3;·(
 have tp:=wK y.kind 3 (by omega);have HY:=oH (show JY p c b R l (m+1) x from⟨by rw[show b.params+(cj (R++l.take (m+1)):Int)=b.params+dn+dk from by rw[dw,I.2.2.2.1,o.2.2.1];omega];exact a8.out,⟨fun h=>absurd h e1,fun h=>absurd h e2⟩,fun _ _=>⟨y,by simpa using hy,g4⟩⟩);clear b3 g2 g4 hy e1 e2;go_wp2_with (go_at_call 96;refine(HE.out _).mono ?_;rintro e w4 ⟨rfl,rfl⟩);go_roundg (l.length-(m+1+1))
 ·have a6:nx=b.params+dn+cj (l.take (m+1+1)):=by(
 rw[←b9.out,cU,o.2.2.2.1,dw,o.2.2.1];by_cases hf:cz x=true;·rw[ap hf,show cj (some x).toList=1 by rw[co];simp[hf]];omega
 rw[ae hf,show cj (some x).toList=0 by rw[co];simp[hf]];omega)
  refine⟨m+1+1,by omega,rfl,by go_num,by rw[a6],by go_num,o.2.2.2.2.trans HT.out,fun i z hi hz=>?_⟩;by_cases e:i=m+1;·subst e;rw[o.2.2.2.1] at hz;cases hz;exact HY.out
  exact o.2.1 i z (by omega) hz
 omega)
 have tp:=mK y.kind 3 (by omega);have HN:=oH (show¬gX p c b from fun h=>by have h:=((HI.1 h).2.1 j l I.2.2.2.2.2.1).2.2 (m+1) x o.2.2.2.1;rw[I.2.2.1] at h;obtain⟨z,hz,c6⟩:=h.2.2 g2 g3;rw[Nat.add_sub_cancel,hy] at hz;cases hz;exact g4 c6);clear b3 g2 g4 hy e1 e2;go_wp2_with (go_at_call 96;refine(HE.out _).mono ?_;rintro e w4 ⟨rfl,rfl⟩);go_ret2;exact .no HN.out (HW.2.1.trans (o.1.trans HT.out)))
 have tz:decide ((0:Int)<(k:Int))=false:=by simp;omega
 have l9:decide (0<k)=false:=by simp;omega
 have HY:=oH (show JY p c b R l k x from⟨by rw[show b.params+(cj (R++l.take k):Int)=b.params+dn+dk from by rw[dw,I.2.2.2.1,o.2.2.1];omega];exact a8.out,⟨fun h=>absurd h e1,fun h=>absurd h e2⟩,fun _ h=>absurd h g3⟩);clear b3 g2 g3 e1 e2;go_wp2_with (go_at_call 96;refine(HE.out _).mono ?_;rintro e w4 ⟨rfl,rfl⟩);go_roundg (l.length-(k+1))
 ·have a6:nx=b.params+dn+cj (l.take (k+1)):=by(
 rw[←b9.out,cU,o.2.2.2.1,dw,o.2.2.1];by_cases hf:cz x=true;·rw[ap hf,show cj (some x).toList=1 by rw[co];simp[hf]];omega
 rw[ae hf,show cj (some x).toList=0 by rw[co];simp[hf]];omega)
  refine⟨k+1,by omega,rfl,by go_num,by rw[a6],by go_num,o.2.2.2.2.trans HT.out,fun i z hi hz=>?_⟩;by_cases e:i=k;·subst e;rw[o.2.2.2.1] at hz;cases hz;exact HY.out
  exact o.2.1 i z (by omega) hz
 omega)
 have t3:=nK x.kind 3 (by omega);have HY:=oH (show JY p c b R l k x from⟨by rw[show b.params+(cj (R++l.take k):Int)=b.params+dn+dk from by rw[dw,I.2.2.2.1,o.2.2.1];omega];exact a8.out,⟨fun h=>absurd h e1,fun h=>absurd h e2⟩,fun h=>absurd h g2⟩);clear b3 g2 e1 e2;go_wp2_with (go_at_call 96;refine(HE.out _).mono ?_;rintro e w4 ⟨rfl,rfl⟩);go_roundg (l.length-(k+1))
 ·have a6:nx=b.params+dn+cj (l.take (k+1)):=by(
 rw[←b9.out,cU,o.2.2.2.1,dw,o.2.2.1];by_cases hf:cz x=true;·rw[ap hf,show cj (some x).toList=1 by rw[co];simp[hf]];omega
 rw[ae hf,show cj (some x).toList=0 by rw[co];simp[hf]];omega)
  refine⟨k+1,by omega,rfl,by go_num,by rw[a6],by go_num,o.2.2.2.2.trans HT.out,fun i z hi hz=>?_⟩;by_cases e:i=k;·subst e;rw[o.2.2.2.1] at hz;cases hz;exact HY.out
  exact o.2.1 i z (by omega) hz
 omega)
 have a8:=oH b3;have HN:=oH (show¬gX p c b from fun h=>by have h:=((HI.1 h).2.1 j l I.2.2.2.2.2.1).2.2 k x o.2.2.2.1;rw[I.2.2.1] at h;have h1:=h.1;rw[show b.params+(cj (R++l.take k):Int)=b.params+dn+dk from by rw[dw,I.2.2.2.1,o.2.2.1];omega] at h1;exact a8.out h1);clear b3;refine R0 14 wr (fun i=>if i=8 then some (fun v=>∃n:Int,v=.tuple #[.int .i64 n,.bool false]) else none) ?_;iterate 8 first|refine O4 HF.out ?_|refine O0 ?_
 refine O6 (fun wn C hp=>?_) (fun wn C hp=>?_) ?_;·obtain⟨e0,e1,e2,e3,e4,e5,e6,e7,e8,e9,o0,o1,o2,o3,o4,o5,o6,o7,o8,o9⟩:=HF.out wn C;go_simp;refine(HC.out wn C).mono ?_;rintro e wq ⟨n,ok,rfl,hb,hn,c4⟩;rw[au a8.out] at hb;subst hb;exact .inl ⟨rfl,_,rfl,⟨n,rfl⟩,C.trans c4,fun _ h=>(by cases h),fun d hd hT=>(by cases hT)⟩
 ·obtain⟨e,wq,_,⟨n,ok,rfl,hb,hn,c4⟩,_⟩:=(HC.out wn C) []
  rw[au a8.out] at hb;subst hb;exact⟨_,wq,⟨n,rfl⟩,C.trans c4,fun _ h=>(by cases h),fun d hd hT=>(by cases hT)⟩
 rintro v ⟨n2,rfl⟩;simp only[PS];iterate 5 refine O0 ?_
 refine aG fun wt c5 hF=>?_;have HT:=oH c5;clear c5 hF;simp only[dK];go_wp2_with fail;go_ret2;exact .no HN.out (HW.2.1.trans (o.1.trans HT.out)))
 obtain rfl:k=l.length:=by omega
 rw[dZ] at b6;have HB:=J3 J Y b6;clear a7 J Y b6;go_wp2_with fail;go_roundg (b.Ng.length-(j+1));·(
 have e:(b.Ng.take (j+1)).flatten=R++l:=by rw[cU,I.2.2.2.2.2.1,List.flatten_append,I.2.2.1];simp
 refine⟨j+1,by omega,rfl,by go_num,?_,?_,HB.1,fun i m hi hm=>?_⟩;·rw[e,dw,I.2.2.2.1,HB.2.2,Int.natCast_add,Int.add_assoc]
 ·rw[e,iQ,I.2.2.2.2.1,Int.natCast_add]
 by_cases ei:i=j
 ·subst ei
  rw[I.2.2.2.2.2.1] at hm;cases hm;exact⟨by omega,by omega,fun k x hx=>by rw[I.2.2.1];exact HB.2.1 k x (lS.1 hx).1 hx⟩
 exact I.2.1 i m (by omega) hm)
 omega)
 obtain rfl:j=b.Ng.length:=by omega
 rw[dZ] at b5;have I:=J5 a7 Y b5 c3 b8;clear a7 Y b5 c3 b8;by_cases hv:b.params+(dn:Int)=b.vars
 ·have t:(b.params+(dn:Int)==b.vars)=true:=by rw[cy];exact hv
  have HY:=oH (show gX p c b from HI.2 ⟨⟨h0,h1,h2,h3⟩,fun i l hl=>I.2.1 i l (lS.1 hl).1 hl,by rw[I.2.2.1,I.2.2.2.1];exact hv.symm⟩);clear hv;go_wp2_with fail;go_quiet (fail);go_wp2_with fail;go_ret2;exact⟨pl,true,rfl,(av HY.out).symm,fun _=>by unfold ft;rw[I.2.2.1,I.2.2.2.2],by omega,HW.2.1.trans (I.1.drewN _)⟩
 have t:(b.params+(dn:Int)==b.vars)=false:=by rw[bE];exact hv
 have HN:=oH (show¬gX p c b from fun h=>hv (by have h:=(HI.1 h).2.2;rw[I.2.2.1,I.2.2.2.1] at h;exact h.symm));clear hv;go_wp2_with fail;go_quiet (fail);go_wp2_with fail;go_ret2;exact⟨pl,false,rfl,(au HN.out).symm,fun h=>absurd h HN.out,by omega,HW.2.1.trans (I.1.drewN _)⟩)
 have s3:decide ((64:Int)<(b.Ng.length:Int))=true:=by simp;omega
 have HN:=oH (show¬gX p c b from fun h=>by have h:=HI.1 h;exact h3 h.1.2.2.2);clear h3;go_wp2_with fail;go_ret2;exact .no HN.out (HW.2.1))
 have s2:decide ((b.Ng.length:Int)<1)=true:=by simp;omega
 have HN:=oH (show¬gX p c b from fun h=>by have h:=HI.1 h;exact h2 h.1.2.2.1);clear h2;go_wp2_with fail;go_ret2;exact .no HN.out (HW.2.1))
 have s1:decide (6<b.params)=true:=by simp;omega
 have HN:=oH (show¬gX p c b from fun h=>by have h:=HI.1 h;exact h1 h.1.2.1);clear h1;go_wp2_with fail;go_ret2;exact .no HN.out (HW.2.1))
 have s0:decide (b.params<0)=true:=by simp;omega
 have HN:=oH (show¬gX p c b from fun h=>by have h:=HI.1 h;exact h0 h.1.1);clear h0;go_wp2_with fail;go_ret2;exact .no HN.out (HW.2.1)
def zE (p:aH)(a:Int×Int):Prop:=1≤a.1∧a.1≤256∧0≤a.2∧a.2<p.MZ.length
theorem yH {L:List (List bz)}{l:List bz}(h:l∈L):l.length≤L.flatten.length:=by rw[List.length_flatten];exact qz (dr.2 ⟨l,h,rfl⟩)
theorem zT {p:aH}{c:aE}{b:aw}(h:bJ p c)(j:b∈c.Nf):gX p c b:=by refine⟨h.2.2.2.2.2.2.2.1 b j,fun l o=>?_⟩;have C:=yH o;have I:b.Ng.flatten.length≤(c.Nf.map ft).sum:=qz (dr.2 ⟨b,j,rfl⟩);have J:=h.2.2.2.2.2.2.2.2;omega
theorem Hr {α:Type}(f:α→Nat)(l:List α)(j:Nat):((l.take j).map f).sum≤(l.map f).sum:=by
 conv=>rhs;rw[←List.take_append_drop j l]
 rw[ic,List.sum_append];omega
theorem Ba (S:Nat→Prop)(pv cv:Value)(p:aH)(c:aE)(w:World)(hp:dJ S w pv p)(hc:cQ S w cv c)(k7:xF p):
 Calls prog 23 #[pv,cv] w fun e w'=>e=.returned (.bool (pB (bJ p c)))∧aa All w w':=by
 have h4:=cB.la hp;have i7:=dc.la hc;obtain⟨p9,vu,vi,vo,rfl,k8,k9,l0,l3,l4⟩:=hp;obtain⟨a1,n1,rfl,l1,l2,_⟩:=k8;obtain⟨a2,n2,rfl,_⟩:=k9;obtain⟨a3,n3,rfl,_⟩:=l0;obtain⟨a4,n4,rfl,_⟩:=l3;obtain⟨ka,kf,rfl,j0,j1,l5⟩:=hc;have j2:=bu.la j0;have j3:=bV.la j1;obtain⟨A1,c1,rfl,m1,m2,m3,_⟩:=j0;obtain⟨A2,c2,rfl,m4,m5,m6,_⟩:=j1;unfold maxLen at*;obtain⟨W0,b4⟩:=eQ ((w.alloc (.cells #[.slice a1 p.MZ.length n1,.slice a2 p.up.length n2,.slice a3 p.Nb.length n3,.slice a4 p.Na.length n4,.int .i64 p.Nc] 26)).alloc (.cells #[.slice A1 c.Nd.length c1,.slice A2 c.Nf.length c2,.int .i64 c.main] 30));have h5:=aC2 b4;have bP:=aA1 b4;have bK:=aB0 b4 aE1;obtain⟨p0,p1,p2,p3,p4⟩:=bP.c5;obtain⟨k0,k1,k2⟩:=bK.c3;have HW:=J4 b4 h5 bP bK;have HP:=J4 h4 i7 j2 j3;have HR:=oH (ut S _ p W0 (h4 W0 h5) k7);clear b4 h5 bP bK h4 i7 j2 j3 l4;unfold aV at l5;go_enter func23,ntmps23;go_upto_region 1 with fail;rw[←HW.1];go_wp2_with fail;refine HR.out.mono ?_;rintro e w1 ⟨rfl,h6⟩;have J:=oH h6;have a7:=oH (HW.2.1.trans h6);clear h6 p0 p1 p2 p3 p4 k0 k1 k2;have b6:=HW.2.2.1.kept J.out trivial;have a8:=HW.2.2.2.kept J.out trivial;obtain⟨p0,p1,p2,p3,p4⟩:=b6.c5;obtain⟨k0,k1,k2⟩:=a8.c3;clear b6 a8;by_cases b0:dD p
 case neg=>(rw[au b0];have Y:=oH (show¬bJ p c from fun h=>b0 h.1);clear b0;go_wp2_with fail;go_ret;exact⟨by rw[au Y.out]<;>rfl,a7.out⟩)
 rw[av b0];have l6:=oH b0;clear b0;by_cases c0:c.Nd.length≤16;·(
 have l7:decide ((16:Int)<(c.Nd.length:Int))=false:=by simp;omega
 by_cases c3:c.Nf.length≤64;·(
 have l8:decide ((64:Int)<(c.Nf.length:Int))=false:=by simp;omega
 by_cases c4:0≤c.main;·(
 have j4:decide (c.main<0)=false:=by simp;omega
 by_cases c5:c.main<(c.Nf.length:Int);·(
 have j5:decide ((c.Nf.length:Int)≤c.main)=false:=by simp;omega
 obtain⟨m,hm⟩:∃m:Nat,c.main=m:=⟨c.main.toNat,by omega⟩;have l9:m<c.Nf.length:=by omega
 obtain⟨g,hg⟩:=eG l9;obtain⟨gb,go,q0,rfl,m9,j6,j7,gv,rfl,n0,n5,n7⟩:=aZ (HP.2.2.2 w1 a7.out) hg;have z0:=j7 0 _ rfl;rw[dj] at z0;have HG:=oH (show(c.Nf.getD c.main.toNat ⟨0,0,[]⟩).params=g.params by rw[hm,dP,iG,hg];rfl);have c6:=J4 c0 c3 c4 c5;rw[hm] at k2 j4 j5;have q1:decide (c.Nf.length≤m)=false:=by simp;omega
 clear hg j7 n0 n5 n7 j6 m9 c0 c3 c4 c5 hm;by_cases c7:g.params=0;·(
 have n8:(g.params !=0)=false:=by rw[gj];omega
 have n9:=oH c7;clear c7;go_wp2_with fail;go_loopg [5] c.Nd.length (fun g s wr=>∃j:Nat,j≤c.Nd.length∧g=c.Nd.length-j∧s=.int .i64 j∧aa All w1 wr∧∀(i:Nat) a,i<j→c.Nd[i]? =some a→zE p a);·exact⟨0,by omega,by omega,rfl,kR,fun i l hi=>by omega⟩
 obtain⟨j,hj,rfl,rfl,o,C⟩:=hrel;have R:=a7.out.trans o;clear p0 p1 p2 p3 p4 k0 k1 k2;have a8:=(HW.2.2.2.kept J.out trivial).kept o trivial;obtain⟨k0,k1,k2⟩:=a8.c3;clear a8;by_cases h7:j<c.Nd.length;·(
 obtain⟨a,ha⟩:=eG h7;obtain⟨ab,ao,q2,rfl,q3,p5,h8,rfl,o0,o1⟩:=aZ (HP.2.2.1 wr R) ha;have z1:=h8 0 _ rfl;rw[dj] at z1;have z2:=h8 1 _ rfl;obtain⟨W5,c8⟩:=eQ (wr.alloc (.cells #[.int .i64 a.1,.int .i64 a.2] 99));have h9:=aC1 c8;have b5:=aA0 c8;obtain⟨y0,y1⟩:=b5.c2;have b6:=((HW.2.2.1.kept J.out trivial).kept o trivial).kept h9 trivial;have p0:=b6.cl 0;have HA:=J6 o C ha c8 h9 R;clear o C ha c8 h9 R b5 b6 h8 o0 o1;go_upto_region 7 with fail;rw[←HA.2.2.2.1];by_cases c9:1≤a.1;·(
 have o2:decide (a.1<1)=false:=by simp;omega
 by_cases d7:a.1≤256;·(
 have o3:decide (256<a.1)=false:=by simp;omega
 by_cases d8:0≤a.2;·(
 have o4:decide (a.2<0)=false:=by simp;omega
 by_cases d9:a.2<(p.MZ.length:Int);·(
 have o5:decide ((p.MZ.length:Int)≤a.2)=false:=by simp;omega
 have HY:=oH (show zE p a from⟨c9,d7,d8,d9⟩);clear c9 d7 d8 d9;go_wp2_with fail;go_roundg (c.Nd.length-(j+1))
 ·refine⟨j+1,by omega,rfl,by go_num,HA.1.trans HA.2.2.2.2.1,fun i z hi hz=>?_⟩
  by_cases e:i=j;·subst e;rw[HA.2.2.1] at hz;cases hz;exact HY.out
  exact HA.2.1 i z (by omega) hz
 omega)
 have o5:decide ((p.MZ.length:Int)≤a.2)=true:=by simp;omega
 have Y:=oH (show¬bJ p c from fun h=>by have h:=h.2.2.2.2.2.2.1 a (mG HA.2.2.1);exact d9 h.2.2.2);clear d9;go_wp2_with fail;go_ret;exact⟨by rw[au Y.out]<;>rfl,HA.2.2.2.2.2.trans HA.2.2.2.2.1⟩)
 have o4:decide (a.2<0)=true:=by simp;omega
 have Y:=oH (show¬bJ p c from fun h=>by have h:=h.2.2.2.2.2.2.1 a (mG HA.2.2.1);exact d8 h.2.2.1);clear d8;go_wp2_with fail;go_ret;exact⟨by rw[au Y.out]<;>rfl,HA.2.2.2.2.2.trans HA.2.2.2.2.1⟩)
 have o3:decide (256<a.1)=true:=by simp;omega
 have Y:=oH (show¬bJ p c from fun h=>by have h:=h.2.2.2.2.2.2.1 a (mG HA.2.2.1);exact d7 h.2.1);clear d7;go_wp2_with fail;go_ret;exact⟨by rw[au Y.out]<;>rfl,HA.2.2.2.2.2.trans HA.2.2.2.2.1⟩)
 have o2:decide (a.1<1)=true:=by simp;omega
 have Y:=oH (show¬bJ p c from fun h=>by have h:=h.2.2.2.2.2.2.1 a (mG HA.2.2.1);exact c9 h.1);clear c9;go_wp2_with fail;go_ret;exact⟨by rw[au Y.out]<;>rfl,HA.2.2.2.2.2.trans HA.2.2.2.2.1⟩)
 obtain rfl:j=c.Nd.length:=by omega
 have o6:=oH (show∀a∈c.Nd,zE p a from fun a ha=>by obtain⟨i,hi⟩:=cY.1 ha;exact C i a (lS.1 hi).1 hi);obtain⟨wa,rfl⟩:=eQ wr;have a6:=J2 o R;clear o R C;go_wp2_with fail;go_loopg [7,8] c.Nf.length (fun g s7 s8 wr=>∃j:Nat,j≤c.Nf.length∧g=c.Nf.length-j∧s8=.int .i64 j∧s7=.int .i64 (((c.Nf.take j).map ft).sum:Nat)∧aa All wa wr∧((c.Nf.take j).map ft).sum≤4096∧∀(i:Nat) b,i<j→c.Nf[i]? =some b→gX p c b);·exact⟨0,by omega,by omega,rfl,by rw[List.take_zero];rfl,kR,by simp,fun i l hi=>by omega⟩
 obtain⟨j,hj,rfl,rfl,rfl,o,h3,C⟩:=hrel;have R:=a6.2.trans o;clear k0 k1 k2;have a8:=((HW.2.2.2.kept J.out trivial).kept a6.1 trivial).kept o trivial;obtain⟨k0,k1,k2⟩:=a8.c3;clear a8;obtain⟨sm,b1⟩:=eR (((c.Nf.take j).map ft).sum);rw[b1] at h3⊢;by_cases h7:j<c.Nf.length;·(
 obtain⟨b,hb⟩:=eG h7;obtain⟨q4,q5,p6,ge,q6,p7,h0,bv,rfl,j8,j9,k3⟩:=aZ (HP.2.2.2 wr R) hb;injection ge with ge;injection ge with o7 o8;subst o7 o8;have k4:=bg.la j8;obtain⟨vA,vc,rfl,_⟩:=j8;have HF:=oH (show∀wn,aa All wr wn→wn.cell? ⟨w.heap.size,0,none⟩=some (.slice a1 p.MZ.length n1)∧wn.cell? ⟨w.heap.size,1,none⟩=some (.slice a2 p.up.length n2)∧wn.cell? ⟨w.heap.size,2,none⟩=some (.slice a3 p.Nb.length n3)∧wn.cell? ⟨w.heap.size,3,none⟩=some (.slice a4 p.Na.length n4)∧wn.cell? ⟨w.heap.size,4,none⟩=some (.int .i64 p.Nc)∧wn.cell? ⟨w.heap.size+1,0,none⟩=some (.slice A1 c.Nd.length c1)∧wn.cell? ⟨w.heap.size+1,1,none⟩=some (.slice (some ⟨gb,go,none⟩) c.Nf.length c2)∧wn.cell? ⟨w.heap.size+1,2,none⟩=some (.int .i64 c.main)∧wn.cell? ⟨gb,go+j*3,none⟩=some (.int .i64 b.params)∧wn.cell? ⟨gb,go+j*3+1,none⟩=some (.int .i64 b.vars)∧wn.cell? ⟨gb,go+j*3+2,none⟩=some (.slice vA b.Ng.length vc) from fun wn I=>
  ⟨((HW.2.2.1.kept J.out trivial).kept ((a6.1.trans o).trans I) trivial).cell 0,((HW.2.2.1.kept J.out trivial).kept ((a6.1.trans o).trans I) trivial).cell 1,((HW.2.2.1.kept J.out trivial).kept ((a6.1.trans o).trans I) trivial).cell 2,((HW.2.2.1.kept J.out trivial).kept ((a6.1.trans o).trans I) trivial).cell 3,((HW.2.2.1.kept J.out trivial).kept ((a6.1.trans o).trans I) trivial).cell 4,((HW.2.2.2.kept J.out trivial).kept ((a6.1.trans o).trans I) trivial).cell 0,((HW.2.2.2.kept J.out trivial).kept ((a6.1.trans o).trans I) trivial).cell 1,((HW.2.2.2.kept J.out trivial).kept ((a6.1.trans o).trans I) trivial).cell 2,I.cell (p:=⟨gb,go+j*3,none⟩) trivial (by have:=h0 0 _ rfl;rw[dj] at this;exact this),I.cell (p:=⟨gb,go+j*3+1,none⟩) trivial (by have:=h0 1 _ rfl;exact this),I.cell (p:=⟨gb,go+j*3+2,none⟩) trivial (by have:=h0 2 _ rfl;exact this)⟩)
 have HC:=oH (fun wn (I:aa All wr wn)=>DN S _ _ _ p c b wn (HP.1 wn (R.trans I)) (HP.2.1 wn (R.trans I)) (k4 wn I) j9 k3);have HB:=J5 o R C hb b1;clear o R C hb h0 k4 j9 k3 b1;go_wp2_with fail;by_cases b7:gX p c b;·(
 have b2:=oH b7;clear b7;obtain⟨bl,i1⟩:=eR (ft b);have k5:=oH (fun wn (I:aa All wr wn)=>(HC.out wn I).mono (R':=fun e wq=>e=.returned (.tuple #[.int .i64 bl,.bool true])∧aa All wn wq∧bl≤1000000) (by rintro e wq ⟨n,ok,rfl,hb,hn,b3,b8⟩;rw[av b2.out] at hb;subst hb;have hn:=hn b2.out;exact⟨by rw[hn,i1],b8,by omega⟩));have p8:bl≤1000000:=by obtain⟨e,wq,_,h,_⟩:=(k5.out wr kR) [];exact h.2.2
 have k6:=oH i1;clear i1;refine R0 13 wr (fun i=>if i=7 then some (·=.tuple #[.int .i64 bl,.bool true]) else none) ?_;iterate 7 first|refine O4 HF.out ?_|refine O0 ?_
 refine O5 (v:=.tuple #[.int .i64 bl,.bool true]) (fun wn I hp=>⟨_,_,by(skip;go_simp<;>with_reducible rfl),(((fun wn I=>(k5.out wn I).mono (R':=fun e wq=>e=.returned (.tuple #[.int .i64 bl,.bool true])∧aa All wn wq) fun e w' h=>⟨h.1,h.2.1⟩) wn I).mono fun e w' h=>⟨h.1,I.trans h.2,fun _ h=>by cases h⟩)⟩) ?_;iterate 5 refine O0 ?_
 refine aG fun wt b9 hF=>?_;have HT:=oH b9;clear b9 hF;simp only[dK];by_cases hs:sm+bl≤4096;·(
 have ts:decide ((4096:Int)<(sm:Int)+(bl:Int))=false:=by simp;omega
 have i6:((c.Nf.take (j+1)).map ft).sum=sm+bl:=by rw[cU,HB.2.2.2.1,ic,List.sum_append,HB.2.2.2.2,←k6.out];simp
 have HS:=J2 hs i6;clear hs i6;go_wp2_with fail;go_roundg (c.Nf.length-(j+1))
 ·refine⟨j+1,by omega,rfl,by go_num,by rw[HS.2];go_num,HB.1.trans HT.out,by rw[HS.2];exact HS.1,fun i z hi hz=>?_⟩
  by_cases e:i=j;·subst e;rw[HB.2.2.2.1] at hz;cases hz;exact b2.out
  exact HB.2.2.1 i z (by omega) hz
 omega)
 have ts:decide ((4096:Int)<(sm:Int)+(bl:Int))=true:=by simp;omega
 have Y:=oH (show¬bJ p c from fun h=>by
  have h1:=h.2.2.2.2.2.2.2.2;have h2:=Hr ft c.Nf (j+1);have i6:((c.Nf.take (j+1)).map ft).sum=sm+bl:=by rw[cU,HB.2.2.2.1,ic,List.sum_append,HB.2.2.2.2,←k6.out];simp
  omega)
 clear hs;go_wp2_with fail;go_ret;exact⟨by rw[au Y.out]<;>rfl,HB.2.1.trans HT.out⟩)
 have b2:=oH b7;have Y:=oH (show¬bJ p c from fun h=>b7 (zT h (mG HB.2.2.2.1)));clear b7;refine R0 13 wr (fun i=>if i=7 then some (fun v=>∃n:Int,0≤n∧n≤1000000∧v=.tuple #[.int .i64 n,.bool false]) else none) ?_;iterate 7 first|refine O4 HF.out ?_|refine O0 ?_
 refine O6 (fun wn I hp=>?_) (fun wn I hp=>?_) ?_;·obtain⟨e0,e1,e2,e3,e4,e5,e6,e7,e8,e9,q7⟩:=HF.out wn I;go_simp;refine(HC.out wn I).mono ?_;rintro e wq ⟨n,ok,rfl,hb,hn,b3,b8⟩;rw[au b2.out] at hb;subst hb;exact .inl ⟨rfl,_,rfl,⟨n,b3.1,b3.2,rfl⟩,I.trans b8,fun _ h=>(by cases h),fun d hd hT=>(by cases hT)⟩
 ·obtain⟨e,wq,_,⟨n,ok,rfl,hb,hn,b3,b8⟩,_⟩:=(HC.out wn I) []
  rw[au b2.out] at hb;subst hb;exact⟨_,wq,⟨n,b3.1,b3.2,rfl⟩,I.trans b8,fun _ h=>(by cases h),fun d hd hT=>(by cases hT)⟩
 rintro v ⟨n,q8,q9,rfl⟩;simp only[PS];iterate 5 refine O0 ?_
 refine aG fun wt b9 hF=>?_;have HT:=oH b9;clear b9 hF;simp only[dK];go_wp2_with fail;go_ret;exact⟨by rw[au Y.out]<;>rfl,HB.2.1.trans HT.out⟩)
 obtain rfl:j=c.Nf.length:=by omega
 rw[dZ] at b1;have HY:=oH (show bJ p c from⟨l6.out,c6.1,c6.2.1,c6.2.2.1,c6.2.2.2,by rw[HG.out];exact n9.out,o6.out,fun b hb=>by obtain⟨i,hi⟩:=cY.1 hb;exact(C i b (lS.1 hi).1 hi).1,by rw[b1];exact h3⟩);have o9:=oH R;clear o R C b1;go_wp2_with fail;go_ret;exact⟨by rw[av HY.out]<;>rfl,o9.out⟩)
 have n8:(g.params !=0)=true:=by rw[bne_iff_ne];omega
 have Y:=oH (show¬bJ p c from fun h=>by have:=h.2.2.2.2.2.1;rw[HG.out] at this;exact c7 this);clear c7;go_wp2_with fail;go_ret;exact⟨by rw[au Y.out]<;>rfl,a7.out⟩)
 have j5:decide ((c.Nf.length:Int)≤c.main)=true:=by simp;omega
 have Y:=oH (show¬bJ p c from fun h=>by exact c5 h.2.2.2.2.1);clear c5;go_wp2_with fail;go_ret;exact⟨by rw[au Y.out]<;>rfl,a7.out⟩)
 have j4:decide (c.main<0)=true:=by simp;omega
 have Y:=oH (show¬bJ p c from fun h=>by exact c4 h.2.2.2.1);clear c4;go_wp2_with fail;go_ret;exact⟨by rw[au Y.out]<;>rfl,a7.out⟩)
 have l8:decide ((64:Int)<(c.Nf.length:Int))=true:=by simp;omega
 have Y:=oH (show¬bJ p c from fun h=>by exact c3 h.2.2.1);clear c3;go_wp2_with fail;go_ret;exact⟨by rw[au Y.out]<;>rfl,a7.out⟩)
 have l7:decide ((16:Int)<(c.Nd.length:Int))=true:=by simp;omega
 have Y:=oH (show¬bJ p c from fun h=>by exact c0 h.2.1);clear c0;go_wp2_with fail;go_ret;exact⟨by rw[au Y.out]<;>rfl,a7.out⟩
section
open Classical in
noncomputable def oK (p:aH)(c:aE):Int×Int×Int:=if bJ p c then ov c.Nf 0 else(0,0,1)
theorem wy {p:aH}{c:aE}(h:¬bJ p c):oK p c=(0,0,1):=by unfold oK;rw[ae h]
theorem nc {p:aH}{c:aE}(h:bJ p c):oK p c=ov c.Nf 0:=by unfold oK;rw[ap h]
theorem zS {l:List aw}{i:Nat}:(ov l i).2.2=0↔∀b∈l,(oh b).2=0:=by
 constructor;·(
 intro h;induction l generalizing i with
 |nil=>intro b j;cases j
 |cons a l C=>
  intro b j;rw[ov] at h;by_cases o:(oh a).2≠0;·rw[ap o] at h;exact absurd h o
  rw[ae o] at h;rcases fX.1 j with rfl|j;·exact Decidable.not_not.1 o
  exact C h b j)
 intro h;rw[mc h]
theorem uN {p:aH}{c:aE}:(oK p c).2.2=0↔bJ p c∧jH c:=by
 by_cases h:bJ p c;·rw[nc h,zS];exact⟨fun h'=>⟨h,h'⟩,fun h'=>h'.2⟩
 rw[wy h];exact⟨fun h'=>absurd h' (by decide),fun h'=>absurd h'.1 h⟩
def nH (p:aH)(c:aE)(w:World)(e:Ending)(j:World):Prop:=e=.returned (.tuple #[.int .i64 (oK p c).1,.int .i64 (oK p c).2.1,.int .i64 (oK p c).2.2])∧aa All w j
theorem nH.of {p:aH}{c:aE}{w j:World}{x y z:Int}(h:oK p c=(x,y,z))(o:aa All w j):nH p c w (.returned (.tuple #[.int .i64 x,.int .i64 y,.int .i64 z])) j:=⟨by rw[h],o⟩
theorem AS (S:Nat→Prop)(pv cv:Value)(p:aH)(c:aE)(w:World)(hp:dJ S w pv p)(hc:cQ S w cv c)(c6:xF p):
 Calls prog 13 #[pv,cv] w (nH p c w):=by
 have b4:=cB.la hp;have b5:=dc.la hc;obtain⟨e4,vu,vi,vo,rfl,c7,c8,c9,d7,d8⟩:=hp;obtain⟨a1,n1,rfl,l1,l2,_⟩:=c7;obtain⟨a2,n2,rfl,_⟩:=c8;obtain⟨a3,n3,rfl,_⟩:=c9;obtain⟨a4,n4,rfl,_⟩:=d7;obtain⟨ka,kf,rfl,d9,b6,e0⟩:=hc;have b7:=bV.la b6;obtain⟨A1,c1,rfl,m1,m2,m3,_⟩:=d9;obtain⟨A2,c2,rfl,m4,m5,m6,_⟩:=b6;unfold maxLen at*;obtain⟨W0,J⟩:=eQ ((w.alloc (.cells #[.slice a1 p.MZ.length n1,.slice a2 p.up.length n2,.slice a3 p.Nb.length n3,.slice a4 p.Na.length n4,.int .i64 p.Nc] 26)).alloc (.cells #[.slice A1 c.Nd.length c1,.slice A2 c.Nf.length c2,.int .i64 c.main] 30));have a7:=aC2 J;have bP:=aA1 J;have bK:=aB0 J aE1;obtain⟨p0,p1,p2,p3,p4⟩:=bP.c5;obtain⟨k0,k1,k2⟩:=bK.c3;have HW:=J5 J a7 bP bK b7;have HR:=oH (Ba S _ _ p c W0 (b4 W0 a7) (b5 W0 a7) c6);clear J a7 bP bK b4 b5 b7 d8 e0;go_enter func13,ntmps13;go_upto_region 1 with fail;rw[←HW.1];go_wp2_with fail;refine HR.out.mono ?_;rintro e w1 ⟨rfl,b1⟩;have b8:=oH b1;have b9:=oH (HW.2.1.trans b1);clear b1 p0 p1 p2 p3 p4 k0 k1 k2;have R:=HW.2.2.2.1.kept b8.out trivial;obtain⟨k0,k1,k2⟩:=R.c3;clear R;by_cases o:bJ p c
 case neg=>(rw[au o];have HN:=oH (wy o);clear o;go_wp2_with fail;exact bodyPost_ret (v:=.tuple #[.int .i64 0,.int .i64 0,.int .i64 1]) (by simp[results,Tryz.f13,go_sem]) rfl (.of HN.out b9.out))
 rw[av o];have e5:=o.2.2.1;have b3:=oH o;clear o;go_wp2_with fail;go_loopg [7] c.Nf.length (fun g s wr=>∃j:Nat,j≤c.Nf.length∧g=c.Nf.length-j∧s=.int .i64 j∧aa All w1 wr∧∀i:Nat,i<j→∀b,c.Nf[i]? =some b→(oh b).2=0);·exact⟨0,by omega,by omega,rfl,kR,fun i hi=>by omega⟩
 obtain⟨j,hj,rfl,rfl,Y,I⟩:=hrel;have a6:=b9.out.trans Y;clear k0 k1 k2;have R:=(HW.2.2.2.1.kept b8.out trivial).kept Y trivial;obtain⟨k0,k1,k2⟩:=R.c3;clear R;by_cases e1:j<c.Nf.length;·(
 obtain⟨b,hb⟩:=eG e1;obtain⟨gb,go,e6,rfl,e2,c0,a8,bv,rfl,c3,e3,C⟩:=aZ (HW.2.2.2.2 wr a6) hb;have b0:=DS S _ b wr c3 (Kj (b3.2.2.2.2.2.2.2.1 b (mG hb)));obtain⟨vA,vc,rfl,_⟩:=c3;have z0:=a8 0 _ rfl;rw[dj] at z0;have z1:=a8 1 _ rfl;have z2:=a8 2 _ rfl;obtain⟨fx,fy,hf⟩:∃fx fy,oh b=(fx,fy):=⟨_,_,rfl⟩;unfold qk at b0;rw[hf] at b0;have HC:=J6 b0 Y a6 I hb hf;clear b0 Y a6 I hb hf a8 e3 C e2 c0;go_wp2_with fail;refine HC.1.mono ?_;rintro e w2 ⟨rfl,c4⟩;have c5:=oH c4;clear c4;by_cases hz:fy=0;·(
 have tz:(fy !=0)=false:=by rw[gj];exact hz
 have HZ:=oH (show(oh b).2=0 by rw[HC.2.2.2.2.2];exact hz);clear hz;go_wp2_with fail;go_roundg (c.Nf.length-(j+1))
 ·refine⟨j+1,by omega,rfl,by go_num,HC.2.1.trans c5.out,fun i hi b2 C=>?_⟩
  by_cases e:i=j;·subst e;rw[HC.2.2.2.2.1] at C;cases C;exact HZ.out
  exact HC.2.2.2.1 i (by omega) b2 C
 omega)
 have tz:(fy !=0)=true:=by rw[bne_iff_ne];exact hz
 have HZ:=oH (show oK p c=((j:Int),fx,fy) by rw[nc b3.out,su HC.2.2.2.2.1 (fun i hi b2 C=>HC.2.2.2.1 i hi b2 C) (by rw[HC.2.2.2.2.2];exact hz),HC.2.2.2.2.2,cN]);clear hz;go_wp2_with fail;exact bodyPost_ret (v:=.tuple #[.int .i64 j,.int .i64 fx,.int .i64 fy]) (by simp[results,Tryz.f13,go_sem]) rfl (.of HZ.out (HC.2.2.1.trans c5.out)))
 obtain rfl:j=c.Nf.length:=by omega
 have HZ:=oH (show oK p c=(0,0,0) by rw[nc b3.out];exact mc fun b hb=>by obtain⟨i,hi⟩:=cY.1 hb;exact I i (lS.1 hi).1 b hi);have HK:=oH a6;clear Y a6 I;go_wp2_with fail;exact bodyPost_ret (v:=.tuple #[.int .i64 0,.int .i64 0,.int .i64 0]) (by simp[results,Tryz.f13,go_sem]) rfl (.of HZ.out HK.out)
end

end Go.Proofs.YtccbbkopmlnkpaaGreatDoor
