/- Part 13 of the proof (its last part says what is proved). No condition. -/
import Derived.Deep.CutBlock
import Derived.Test.YtccbbkopmlnkpaaGreatDoorK8
import Derived.Test.YtccbbkopmlnkpaaGreatDoorK11
namespace Go.Proofs.YtccbbkopmlnkpaaGreatDoor
set_option maxRecDepth 100000
set_option maxHeartbeats 8000000
open Go.RowKit Go.Proofs.Tryz
theorem uS {b:av}{v:Int}{i k blk:Nat}(o:jt b)(C:v≠-1)(I:¬v<b.params)(h:mv b v i k):ju b v blk↔¬iJ (fd (aM b)) i blk:=by
 constructor
 ·rintro(j|⟨J,k',j,R⟩)
  ·exact absurd j I
  obtain⟨rfl,rfl⟩:=o.once v i k J k' C h j;exact R
 exact fun j=>.inr ⟨i,k,h,j⟩
theorem Bc {b:av}{v:Int}{i k blk n:Nat}(o:jt b)(C:v≠-1)(I:¬v<b.params)(h:mv b v i k):ky b v blk n↔if i=blk then k<n else¬iJ (fd (aM b)) i blk:=by
 constructor
 ·rintro(j|⟨J,k',j,R⟩)
  ·exact absurd j I
  obtain⟨rfl,rfl⟩:=o.once v i k J k' C h j;exact R
 exact fun j=>.inr ⟨i,k,h,j⟩
theorem AO (s:ByteArray)(w:World):Calls prog 135 #[.string s] w fun e j=>e=.returned (.string s)∧aa All w j:=by go_enter func135,ntmps135;go_wp2;go_ret;exact⟨rfl,kR⟩
theorem AP (s:ByteArray)(j:Nat)(o:ByteArray)(p q:Value)(Np:Int)(w:World)(C:al w j 148 #[.string o,p,q,.int .i64 Np]):
 Calls prog 136 #[.string s,.pointer (some ⟨j,0,none⟩)] w fun e I=>e=.returned (.int .i64 Np)∧aa All w I:=by
 have J:=C.cell 3;simp only[gc] at J;go_enter func136,ntmps136;go_wp2;go_ret;exact⟨rfl,kR⟩
theorem GP (j:ByteArray)(o:Option Addr)(C I:Nat)(J:Option Addr)(R Y:Nat)(Np:Int)(w:World):Calls prog 87 #[.agg #[.string j,.slice o C I,.slice J R Y,.int .i64 Np]] w fun e w'=>e=.returned (.string j)∧aa All w w':=by go_enter func87,ntmps87;go_wp2;go_ret;exact⟨rfl,kR.alloc _⟩
theorem GQ (j:ByteArray)(o:Option Addr)(C I:Nat)(J:Option Addr)(R Y:Nat)(Np:Int)(w:World):Calls prog 88 #[.agg #[.string j,.slice o C I,.slice J R Y,.int .i64 Np]] w fun e w'=>e=.returned (.int .i64 Np)∧aa All w w':=by go_enter func88,ntmps88;go_wp2;go_ret;exact⟨rfl,kR.alloc _⟩
theorem AQ (j:ByteArray)(o:Option Addr)(C I:Nat)(Np:Int)(w:World):Calls prog 138 #[.agg #[.string j,.slice o C I,.int .i64 Np]] w fun e J=>e=.returned (.string j)∧aa All w J:=by go_enter func138,ntmps138;go_wp2;go_ret;exact⟨rfl,kR.alloc _⟩
theorem AR (j:ByteArray)(o:Option Addr)(C I:Nat)(Np:Int)(w:World):Calls prog 139 #[.agg #[.string j,.slice o C I,.int .i64 Np]] w fun e J=>e=.returned (.int .i64 Np)∧aa All w J:=by go_enter func139,ntmps139;go_wp2;go_ret;exact⟨rfl,kR.alloc _⟩
theorem jF {l:List ByteArray}{s:ByteArray}(h:l.Nodup)(j:s∉l):(l++[s]).Nodup:=by rw[List.nodup_append];exact⟨h,by simp,fun a o b C e=>by rw[ce.1 C] at e;exact j (e▸o)⟩
theorem jd {l:List ByteArray}{k:Nat}{s:ByteArray}(I:l[k]? =some s)(hm:s∈l.take k):¬l.Nodup:=by intro h;obtain⟨i,hi⟩:=List.getElem?_of_mem hm;have j:=(lS.1 hi).1;rw[kQ] at j;rw[Cu (by omega)] at hi;have o:=lS.1 hi;have C:=lS.1 I;have:=(List.getElem_inj (h₀:=o.1) (h₁:=C.1) h).1 (o.2.trans C.2.symm);omega
def rZ (l:List ByteArray)(w:World)(e:Ending)(w':World):Prop:=qi l.Nodup (fun e w'=>∃b,e=.returned (.map (some b))∧bN w' b l∧w.heap.size≤b∧b<w'.heap.size∧aa All w w') w e w'
theorem aq {w j:World}(h:aa (fun b=>b<w.heap.size) w j):aa All w j:=⟨h.os,h.output,h.size,fun k o _=>h.block k o o⟩
theorem uv (S:Nat→Prop)(v:Value)(l:List ByteArray)(bf:Nat)(nm:ByteArray)(p q:Value)(Np:Int)(w:World)(hv:cC S w v l)(hf:al w bf 148 #[.string nm,p,q,.int .i64 Np])(c8:aS Np)(hl:l.length≤900000)(b6:∀s∈l,s.size≤140737488355328):
 Calls prog 134 #[v,.func (.func 135) #[] #[],.func (.func 136) #[] #[.pointer (some ⟨bf,0,none⟩)]] w (rZ l w):=by
 have b7:=ap.la hv;obtain⟨A1,c1,rfl,l1,l2,l3,_⟩:=hv;unfold maxLen at l2;have HV:=oH b7;clear b7;obtain⟨W0,Y⟩:=eQ (w.alloc (.map #[] 0));have b8:bN W0 w.heap.size []:=by rw[Y];exact bN.new w
 have b9:aa All w W0:=by rw[Y];exact kR.alloc _
 have c0:W0.heap.size=w.heap.size+1:=by rw[Y];simp
 have HF:=J2 hf b6;clear hf b6;have H0:=J4 Y b8 b9 c0;clear Y b8 b9 c0;have c9:=@run_makeMap prog;go_enter func134,ntmps134;go_upto_region 2 with fail;clear c9;rw[←H0.1];go_wp2_with fail;go_loopg [15] l.length (fun g d7 wr=>∃j:Nat,j≤l.length∧g=l.length-j∧d7=.int .i64 j∧aa (fun b=>b≠w.heap.size) W0 wr∧bN wr w.heap.size (l.take j)∧(l.take j).Nodup);·exact⟨0,by omega,by omega,rfl,kR,H0.2.1,by simp⟩
 obtain⟨j,hj,rfl,rfl,a1,hm,a6⟩:=hrel;have J:aa All w wr:=aq (H0.2.2.1.all.trans (a1.mono fun b hb=>by show b≠_;omega));by_cases d8:j<l.length;·(
 obtain⟨s,hs⟩:=eG d8;obtain⟨bb,o,cc,rfl,e2,e3,rfl⟩:=de (HV.out wr J) hs;have e4:=HF.2 s (mG hs);have c2:l[j]? =some s:=hs;obtain⟨W1,b1⟩:=eQ wr;have b2:aa All wr W1:=by rw[b1];exact kR
 have HA:=J2 (fun wn=>AO s wn) (fun wn (hk:aa All W1 wn)=>AP s bf nm p q Np wn (((HF.1.kept J trivial).kept b2 trivial).kept hk trivial));have d9:=oH (show aS Np from c8);have R:=J7 a1 hm a6 J c2 b1 b2;clear a1 hm a6 J c2 b1 b2;go_upto_region 5 with fail;skip;go_wp2_with fail;refine(HA.1 _).mono ?_;rintro e w2 ⟨rfl,b3⟩;have a7:aa All wr w2:=b3;have c3:aa All W1 w2:=by rw[R.2.2.2.2.2.1];exact b3
 have b4:=R.2.1.keep a7 trivial;have a8:=b4.look (s:=s) (by unfold maxLen;omega);have H2:=J3 a7 c3 b4;clear a7 c3 b4 b3;obtain⟨r,hr⟩:=eR (aH (l.take j) s);rw[hr] at a8;by_cases C:0≤r;·rw[Int.max_eq_left C,be C] at a8;have HN:=oH (fun h:l.Nodup=>jd R.2.2.2.2.1 (aY.1 (by rw[hr];exact C)) h);clear hr C;go_wp2_with fail;refine(HA.2 _ H2.2.1).mono ?_;rintro e w3 ⟨rfl,I⟩;have c4:=oH I;clear I;go_wp2_with (go_at_call 83;refine(eP _ _ _).mono ?_;rintro e w4 ⟨rfl,rfl⟩);exact⟨rfl,.inr ⟨HN.out,⟨Np,9,by decide,d9.out,by unfold aS;omega,rfl⟩,(R.2.2.2.1.trans H2.1).trans c4.out⟩⟩
 rw[cN C] at a8;have HN:=J2 (show aH (l.take j) s<0 by rw[hr];omega) (show¬(s∈l.take j) from fun h=>by have:=aY.2 h;omega);clear hr C;go_wp2_with fail;refine(HA.2 _ H2.2.1).mono ?_;rintro e w3 ⟨rfl,I⟩;have c4:=oH (H2.2.1.trans I);have e0:=oH (H2.2.2.keep I trivial);have e1:=oH (H2.1.trans I);clear I a8;go_wp2_with (go_at_call 83;refine(dl _ _ _).mono ?_;rintro e w4 ⟨rfl,rfl⟩);refine(HA.1 _).mono ?_;rintro e w5 ⟨rfl,b5⟩;have b0:(l.take j).length=j:=by rw[kQ];omega
 have c5:=J2 (e0.out.keep b5 trivial) (e1.out.trans b5);clear b5;go_wp2_with (at_mapUpdate;go_loud (refine fR rfl _ _ _ rfl w.heap.size _ rfl c5.1 (by rw[b0];omega) _ rfl (by rw[b0];rfl) (by unfold maxLen;omega) HN.1 ?_;intro w6 c6 c7;have H6:=J2 c6 c7;clear c6 c7));go_roundg (l.length-(j+1))
 ·have e:l.take (j+1)=l.take j++[s]:=by rw[dT,R.2.2.2.2.1];rfl
  refine⟨j+1,by omega,rfl,by go_num,(R.1.trans c5.2.all).grown H6.2 fun b hb=>.inl fun h=>h (by injection hb with hb;exact hb.symm),?_,?_⟩;·rw[e];exact H6.1
  rw[e];exact jF R.2.2.1 HN.2
 omega)
 obtain rfl:j=l.length:=by omega
 rw[oz (by simp)] at hm a6;have R:=J4 a1 hm a6 J;clear a1 hm a6 J;go_wp2_with fail;go_ret;have:=R.1.size;have:=H0.2.2.2;exact .inl ⟨R.2.2.1,_,rfl,R.2.1,by omega,by omega,R.2.2.2⟩
theorem ut (S:Nat→Prop)(v:Value)(l:List aR)(w:World)(hv:Br S w v l)(hl:l.length≤900000):
 Calls prog 86 #[v,.func (.func 87) #[] #[],.func (.func 88) #[] #[]] w (rZ (l.map fun x=>x.name) w):=by
 have b8:=gd.la hv;obtain⟨A1,c1,rfl,l1,l2,l3,_⟩:=hv;unfold maxLen at l2;have HV:=oH b8;clear b8;obtain⟨W0,a1⟩:=eQ (w.alloc (.map #[] 0));have b9:bN W0 w.heap.size []:=by rw[a1];exact bN.new w
 have c0:aa All w W0:=by rw[a1];exact kR.alloc _
 have c2:W0.heap.size=w.heap.size+1:=by rw[a1];simp
 have H0:=J4 a1 b9 c0 c2;clear a1 b9 c0 c2;have d7:=@run_makeMap prog;go_enter func86,ntmps86;go_upto_region 2 with fail;clear d7;rw[←H0.1];go_wp2_with fail;go_loopg [15] l.length (fun g d8 wr=>∃j:Nat,j≤l.length∧g=l.length-j∧d8=.int .i64 j∧aa (fun b=>b≠w.heap.size) W0 wr∧bN wr w.heap.size ((l.map fun x=>x.name).take j)∧((l.map fun x=>x.name).take j).Nodup);·exact⟨0,by omega,by omega,rfl,kR,H0.2.1,by simp⟩
 obtain⟨j,hj,rfl,rfl,a6,hm,a7⟩:=hrel;have a8:aa All w wr:=aq (H0.2.2.1.all.trans (a6.mono fun b hb=>by show b≠_;omega));by_cases d9:j<l.length;·(
 obtain⟨x,hx⟩:=eG d9;obtain⟨bb,o,cs,rfl,e7,e8,hc,vp,vb,rfl,e0,e1,e2,e3,_⟩:=bh (HV.out wr a8) hx;obtain⟨p1,p3,rfl,_⟩:=e0;obtain⟨q1,q3,rfl,_⟩:=e1;have z0:=hc 0 _ rfl;rw[cJ] at z0;have z1:=hc 1 _ rfl;have z2:=hc 2 _ rfl;have z3:=hc 3 _ rfl;have c3:(l.map fun x=>x.name)[j]? =some x.name:=by rw[cy,hx];rfl
 have e9:=e3;obtain⟨W1,b2⟩:=eQ (wr.alloc (.cells #[.string x.name,.slice p1 x.params.length p3,.slice q1 x.Nm.length q3,.int .i64 x.Np] 148));have c4:aa All wr W1:=by rw[b2];exact kR.alloc _
 have b1:al W1 wr.heap.size 148 #[.string x.name,.slice p1 x.params.length p3,.slice q1 x.Nm.length q3,.int .i64 x.Np]:=by rw[b2];exact ac rfl
 have c5:∀wn,aa All W1 wn→∀i,wn.cell? ⟨wr.heap.size,i,none⟩=(#[.string x.name,.slice p1 x.params.length p3,.slice q1 x.Nm.length q3,.int .i64 x.Np]:Array Value)[i]?:=fun wn hk i=>(b1.kept hk trivial).cell i;have HA:=J2 (fun wn=>GP x.name p1 x.params.length p3 q1 x.Nm.length q3 x.Np wn) (fun wn (_:aa All W1 wn)=>GQ x.name p1 x.params.length p3 q1 x.Nm.length q3 x.Np wn);have Y:=oH c5;have e4:=oH (show aS x.Np from e2);clear c5 b1 hc;have J:=J7 a6 hm a7 a8 c3 b2 c4;clear a6 hm a7 a8 c3 b2 c4;go_upto_region 5 with fail;rw[←J.2.2.2.2.2.1];have g0:=Y.out W1 kR 0;have g1:=Y.out W1 kR 1;have g2:=Y.out W1 kR 2;have g3:=Y.out W1 kR 3;simp only[gc] at g0 g1 g2 g3;go_wp2_with fail;refine(HA.1 _).mono ?_;rintro e w2 ⟨rfl,b5⟩;have b0:aa All wr w2:=J.2.2.2.2.2.2.trans b5;have c6:aa All W1 w2:=b5;have b6:=J.2.1.keep b0 trivial;have b3:=b6.look (s:=x.name) (by unfold maxLen;omega);have H2:=J3 b0 c6 b6;clear b0 c6 b6 b5;have k0:=Y.out w2 (H2.2.1) 0;have k1:=Y.out w2 (H2.2.1) 1;have k2:=Y.out w2 (H2.2.1) 2;have k3:=Y.out w2 (H2.2.1) 3;simp only[gc] at k0 k1 k2 k3;obtain⟨r,hr⟩:=eR (aH ((l.map fun x=>x.name).take j) x.name);rw[hr] at b3;by_cases C:0≤r;·rw[Int.max_eq_left C,be C] at b3;have HN:=oH (fun h:(l.map fun x=>x.name).Nodup=>jd J.2.2.2.2.1 (aY.1 (by rw[hr];exact C)) h);clear hr C;go_wp2_with fail;refine(HA.2 _ H2.2.1).mono ?_;rintro e w3 ⟨rfl,I⟩;have R:=oH I;clear I;go_wp2_with (go_at_call 83;refine(eP _ _ _).mono ?_;rintro e w4 ⟨rfl,rfl⟩);exact⟨rfl,.inr ⟨HN.out,⟨x.Np,9,by decide,e4.out,by unfold aS;omega,rfl⟩,(J.2.2.2.1.trans H2.1).trans R.out⟩⟩
 rw[cN C] at b3;have HN:=J2 (show aH ((l.map fun x=>x.name).take j) x.name<0 by rw[hr];omega) (show¬(x.name∈(l.map fun x=>x.name).take j) from fun h=>by have:=aY.2 h;omega);clear hr C;go_wp2_with fail;refine(HA.2 _ H2.2.1).mono ?_;rintro e w3 ⟨rfl,I⟩;have R:=oH (H2.2.1.trans I);have e5:=oH (H2.2.2.keep I trivial);have e6:=oH (H2.1.trans I);clear I b3;have m0:=Y.out w3 (R.out) 0;have m1:=Y.out w3 (R.out) 1;have m2:=Y.out w3 (R.out) 2;have m3:=Y.out w3 (R.out) 3;simp only[gc] at m0 m1 m2 m3;go_wp2_with (go_at_call 83;refine(dl _ _ _).mono ?_;rintro e w4 ⟨rfl,rfl⟩);refine(HA.1 _).mono ?_;rintro e w5 ⟨rfl,b7⟩;have b4:((l.map fun x=>x.name).take j).length=j:=by rw[kQ,aZ];omega
 have c7:=J2 (e5.out.keep b7 trivial) (e6.out.trans b7);clear b7;go_wp2_with (at_mapUpdate;go_loud (refine fR rfl _ _ _ rfl w.heap.size _ rfl c7.1 (by rw[b4];omega) _ rfl (by rw[b4];rfl) (by unfold maxLen;omega) HN.1 ?_;intro w6 c8 c9;have H6:=J2 c8 c9;clear c8 c9));go_roundg (l.length-(j+1))
 ·have e:(l.map fun x=>x.name).take (j+1)=(l.map fun x=>x.name).take j++[x.name]:=by rw[dT,J.2.2.2.2.1];rfl
  refine⟨j+1,by omega,rfl,by go_num,(J.1.trans c7.2.all).grown H6.2 fun b hb=>.inl fun h=>h (by injection hb with hb;exact hb.symm),?_,?_⟩;·rw[e];exact H6.1
  rw[e];exact jF J.2.2.1 HN.2
 omega)
 obtain rfl:j=l.length:=by omega
 rw[oz (by simp)] at hm a7;have J:=J4 a6 hm a7 a8;clear a6 hm a7 a8;go_wp2_with fail;go_ret;have:=J.1.size;have:=H0.2.2.2;exact .inl ⟨J.2.2.1,_,rfl,J.2.1,by omega,by omega,J.2.2.2⟩
theorem us (S:Nat→Prop)(v:Value)(l:List bM)(w:World)(hv:ms S w v l)(hl:l.length≤900000):
 Calls prog 137 #[v,.func (.func 138) #[] #[],.func (.func 139) #[] #[]] w (rZ (l.map fun x=>x.name) w):=by
 have b7:=dg.la hv;obtain⟨A1,c1,rfl,l1,l2,l3,_⟩:=hv;unfold maxLen at l2;have HV:=oH b7;clear b7;obtain⟨W0,R⟩:=eQ (w.alloc (.map #[] 0));have b8:bN W0 w.heap.size []:=by rw[R];exact bN.new w
 have b9:aa All w W0:=by rw[R];exact kR.alloc _
 have c0:W0.heap.size=w.heap.size+1:=by rw[R];simp
 have H0:=J4 R b8 b9 c0;clear R b8 b9 c0;have c9:=@run_makeMap prog;go_enter func137,ntmps137;go_upto_region 2 with fail;clear c9;rw[←H0.1];go_wp2_with fail;go_loopg [15] l.length (fun g d7 wr=>∃j:Nat,j≤l.length∧g=l.length-j∧d7=.int .i64 j∧aa (fun b=>b≠w.heap.size) W0 wr∧bN wr w.heap.size ((l.map fun x=>x.name).take j)∧((l.map fun x=>x.name).take j).Nodup);·exact⟨0,by omega,by omega,rfl,kR,H0.2.1,by simp⟩
 obtain⟨j,hj,rfl,rfl,Y,hm,a1⟩:=hrel;have a6:aa All w wr:=aq (H0.2.2.1.all.trans (Y.mono fun b hb=>by show b≠_;omega));by_cases d8:j<l.length;·(
 obtain⟨x,hx⟩:=eG d8;obtain⟨bb,o,cs,rfl,e5,e6,hc,vb,rfl,d9,e0,e1⟩:=bh (HV.out wr a6) hx;obtain⟨q1,q3,rfl,_⟩:=d9;have z0:=hc 0 _ rfl;rw[cJ] at z0;have z1:=hc 1 _ rfl;have z2:=hc 2 _ rfl;have c2:(l.map fun x=>x.name)[j]? =some x.name:=by rw[cy,hx];rfl
 have e7:=e1;obtain⟨W1,b0⟩:=eQ (wr.alloc (.cells #[.string x.name,.slice q1 x.code.length q3,.int .i64 x.Np] 171));have c3:aa All wr W1:=by rw[b0];exact kR.alloc _
 have b1:al W1 wr.heap.size 171 #[.string x.name,.slice q1 x.code.length q3,.int .i64 x.Np]:=by rw[b0];exact ac rfl
 have c4:∀wn,aa All W1 wn→∀i,wn.cell? ⟨wr.heap.size,i,none⟩=(#[.string x.name,.slice q1 x.code.length q3,.int .i64 x.Np]:Array Value)[i]?:=fun wn hk i=>(b1.kept hk trivial).cell i;have HA:=J2 (fun wn=>AQ x.name q1 x.code.length q3 x.Np wn) (fun wn (_:aa All W1 wn)=>AR x.name q1 x.code.length q3 x.Np wn);have HC:=oH c4;have e2:=oH (show aS x.Np from e0);clear c4 b1 hc;have J:=J7 Y hm a1 a6 c2 b0 c3;clear Y hm a1 a6 c2 b0 c3;go_upto_region 5 with fail;rw[←J.2.2.2.2.2.1];have g0:=HC.out W1 kR 0;have g1:=HC.out W1 kR 1;have g2:=HC.out W1 kR 2;simp only[gc] at g0 g1 g2;go_wp2_with fail;refine(HA.1 _).mono ?_;rintro e w2 ⟨rfl,b4⟩;have a7:aa All wr w2:=J.2.2.2.2.2.2.trans b4;have c5:aa All W1 w2:=b4;have b5:=J.2.1.keep a7 trivial;have b2:=b5.look (s:=x.name) (by unfold maxLen;omega);have H2:=J3 a7 c5 b5;clear a7 c5 b5 b4;have k0:=HC.out w2 (H2.2.1) 0;have k1:=HC.out w2 (H2.2.1) 1;have k2:=HC.out w2 (H2.2.1) 2;simp only[gc] at k0 k1 k2;obtain⟨r,hr⟩:=eR (aH ((l.map fun x=>x.name).take j) x.name);rw[hr] at b2;by_cases C:0≤r;·rw[Int.max_eq_left C,be C] at b2;have HN:=oH (fun h:(l.map fun x=>x.name).Nodup=>jd J.2.2.2.2.1 (aY.1 (by rw[hr];exact C)) h);clear hr C;go_wp2_with fail;refine(HA.2 _ H2.2.1).mono ?_;rintro e w3 ⟨rfl,I⟩;have a8:=oH I;clear I;go_wp2_with (go_at_call 83;refine(eP _ _ _).mono ?_;rintro e w4 ⟨rfl,rfl⟩);exact⟨rfl,.inr ⟨HN.out,⟨x.Np,9,by decide,e2.out,by unfold aS;omega,rfl⟩,(J.2.2.2.1.trans H2.1).trans a8.out⟩⟩
 rw[cN C] at b2;have HN:=J2 (show aH ((l.map fun x=>x.name).take j) x.name<0 by rw[hr];omega) (show¬(x.name∈(l.map fun x=>x.name).take j) from fun h=>by have:=aY.2 h;omega);clear hr C;go_wp2_with fail;refine(HA.2 _ H2.2.1).mono ?_;rintro e w3 ⟨rfl,I⟩;have a8:=oH (H2.2.1.trans I);have e3:=oH (H2.2.2.keep I trivial);have e4:=oH (H2.1.trans I);clear I b2;have m0:=HC.out w3 (a8.out) 0;have m1:=HC.out w3 (a8.out) 1;have m2:=HC.out w3 (a8.out) 2;simp only[gc] at m0 m1 m2;go_wp2_with (go_at_call 83;refine(dl _ _ _).mono ?_;rintro e w4 ⟨rfl,rfl⟩);refine(HA.1 _).mono ?_;rintro e w5 ⟨rfl,b6⟩;have b3:((l.map fun x=>x.name).take j).length=j:=by rw[kQ,aZ];omega
 have c6:=J2 (e3.out.keep b6 trivial) (e4.out.trans b6);clear b6;go_wp2_with (at_mapUpdate;go_loud (refine fR rfl _ _ _ rfl w.heap.size _ rfl c6.1 (by rw[b3];omega) _ rfl (by rw[b3];rfl) (by unfold maxLen;omega) HN.1 ?_;intro w6 c7 c8;have H6:=J2 c7 c8;clear c7 c8));go_roundg (l.length-(j+1))
 ·have e:(l.map fun x=>x.name).take (j+1)=(l.map fun x=>x.name).take j++[x.name]:=by rw[dT,J.2.2.2.2.1];rfl
  refine⟨j+1,by omega,rfl,by go_num,(J.1.trans c6.2.all).grown H6.2 fun b hb=>.inl fun h=>h (by injection hb with hb;exact hb.symm),?_,?_⟩;·rw[e];exact H6.1
  rw[e];exact jF J.2.2.1 HN.2
 omega)
 obtain rfl:j=l.length:=by omega
 rw[oz (by simp)] at hm a1;have J:=J4 Y hm a1 a6;clear Y hm a1 a6;go_wp2_with fail;go_ret;have:=J.1.size;have:=H0.2.2.2;exact .inl ⟨J.2.2.1,_,rfl,J.2.1,by omega,by omega,J.2.2.2⟩
theorem fY (s:ByteArray)(w:World):Calls prog 130 #[.string s] w fun e J=>e=.returned (.bool (ax s))∧aa All w J:=by
 have j:=sS s w;have hw:=fun w=>tZ s w;unfold ax;cases h:gE s with
 |true=>rw[h] at j;have C:=J2 j hw;clear j hw h;generalize fu s=b at*;go_enter func130,ntmps130;go_wp2_with (first|(go_at_call 153;refine C.1.mono ?_;rintro e R ⟨rfl,o⟩;have I:=oH o;clear o)|(go_at_call 154;refine(C.2 _).mono ?_;rintro e J ⟨rfl,rfl⟩));go_ret;exact⟨by simp,I.out⟩
 |false=>rw[h] at j;have C:=oH j;clear j hw h;go_enter func130,ntmps130;go_wp2_with (go_at_call 153;refine C.out.mono ?_;rintro e R ⟨rfl,o⟩;have I:=oH o;clear o);go_ret;exact⟨rfl,I.out⟩
def bz (l:List ByteArray):Prop:=∀s∈l,ax s=true
theorem wg {l:List ByteArray}:bz l↔∀(i:Nat) s,l[i]? =some s→ax s=true:=
 ⟨fun h _ _ j=>h _ (mG j),fun h s j=>by obtain⟨i,hi⟩:=fB.1 j;exact h i s hi⟩
theorem mW (S:Nat→Prop)(v:Value)(l:List ByteArray)(w:World)(hv:cC S w v l):Calls prog 196 #[v] w fun e w'=>e=.returned (.bool (pB (bz l)))∧aa All w w':=by
 have a1:=hv;obtain⟨A,cap,rfl,h1,h2,h3,_⟩:=hv;unfold maxLen at h2;have HV:=oH a1;clear a1;go_enter func196,ntmps196;go_wp2;go_loopg [7] l.length (fun g i wr=>∃k:Nat,k≤l.length∧g=l.length-k∧i=.int .i64 k∧aa All w wr∧∀(i:Nat) s,i<k→l[i]? =some s→ax s=true);·exact⟨0,by omega,by omega,rfl,kR,fun i s hi=>by omega⟩
 obtain⟨k,hk,rfl,rfl,J,C⟩:=hrel;have HA:=J2 J C;by_cases a6:k<l.length;·(
 obtain⟨s,R⟩:=eG a6;obtain⟨bb,o,rfl,_,hc⟩:=ic (ap.keep (S:=S) J.all HV.out) R;clear J C;have j:=fY s wr;have HS:=oH R;clear R;cases Y:ax s with
 |true=>
  rw[Y] at j;have HN:=J2 Y j;clear Y j;go_wp2_with (go_at_call 130;refine HN.2.mono ?_;rintro e w1 ⟨rfl,I⟩;have H1:=oH I;clear I);go_roundg (l.length-(k+1))
  ·refine⟨k+1,by omega,rfl,by go_num,HA.1.trans H1.out,fun i t hi ht=>?_⟩;by_cases e:i=k;·subst e;rw[HS.out] at ht;cases ht;exact HN.1
   exact HA.2 i t (by omega) ht
  omega
 |false=>rw[Y] at j;have a7:=oH (az (P:=bz l) fun h=>by have:=h s (mG HS.out);rw[Y] at this;cases this);have HN:=oH j;clear Y j;go_wp2_with (go_at_call 130;refine HN.out.mono ?_;rintro e w1 ⟨rfl,I⟩;have H1:=oH I;clear I);go_ret;exact⟨by rw[a7.out];rfl,HA.1.trans H1.out⟩)
 obtain rfl:k=l.length:=by omega
 clear J C;have HY:=oH (aw (P:=bz l) (wg.2 fun i s R=>HA.2 i s (lS.1 R).1 R));go_wp2;go_ret;exact⟨by rw[HY.out];rfl,HA.1⟩
theorem jj (s:ByteArray):s.toList.isEmpty=decide (s=dQ):=by have h:=bn (x:=s) (y:=dQ);rw[Bool.eq_iff_iff,decide_eq_true_iff,←h];simp[dQ]
theorem kY (s:ByteArray)(b:Bool)(w:World):Calls prog 233 #[.string s,.bool b] w fun e Y=>e=.returned (.bool (pB (eS s b)))∧aa All w Y:=by
 cases b with
 |true=>
  have R:=fY s w;have j:eS s true↔ax s=true:=by unfold eS;rw[am rfl]
  generalize ax s=nm at*;have I:=J2 R j;clear R j;cases nm with
  |true=>have o:=oH (aw (I.2.2 rfl));go_enter func233,ntmps233;go_wp2_with (go_at_call 130;refine I.1.mono ?_;rintro e w1 ⟨rfl,C⟩;have J:=oH C;clear C);go_ret;exact⟨by rw[o.out];rfl,J.out⟩
  |false=>have o:=oH (az (P:=eS s true) fun h=>Bool.noConfusion (I.2.1 h));go_enter func233,ntmps233;go_wp2_with (go_at_call 130;refine I.1.mono ?_;rintro e w1 ⟨rfl,C⟩;have J:=oH C;clear C);go_ret;exact⟨by rw[o.out];rfl,J.out⟩
 |false=>
  have j:eS s false↔s=dQ:=by unfold eS;rw[ah lE]
  have o:Hid (pB (eS s false)=decide (s=dQ)):=oH (by
   by_cases h:s=dQ;·rw[be h];exact aw (j.2 h)
   rw[cN h];exact az fun h'=>h (j.1 h'))
  clear j;go_enter func233,ntmps233;go_wp2_with fail;go_ret;exact⟨by rw[o.out,←jj];simp,kR⟩
def fH (l:List aB):List ByteArray:=(l.map fun x=>x.dst).filter fun s=>decide (s≠dQ)
def fI (l:List bM):List ByteArray:=(l.flatMap fun b=>b.code.map fun x=>x.dst).filter fun s=>decide (s≠dQ)
theorem zP (l:List bM)(b:bM):fI (l++[b])=fI l++fH b.code:=by simp[fI,fH]
theorem zO (l:List aB)(x:aB):fH (l++[x])=fH l++if x.dst=dQ then [] else [x.dst]:=by
 unfold fH;rw[gU,qj];congr 1;by_cases h:x.dst=dQ;·simp[h]
 simp[h]
theorem oF {l:List aB}{i:Nat}{x:aB}(h:l[i]? =some x):fH (l.take (i+1))=fH (l.take i)++if x.dst=dQ then [] else [x.dst]:=by rw[dT,h];exact zO _ _
theorem oG {l:List bM}{i:Nat}{b:bM}(h:l[i]? =some b):fI (l.take (i+1))=fI (l.take i)++fH b.code:=by rw[dT,h];exact zP _ _
theorem uP (l:List aB)(i:Nat):∃r,fH l=fH (l.take i)++r:=⟨fH (l.drop i),by
 conv=>lhs;rw[←List.take_append_drop i l]
 unfold fH;rw[gU,qj]⟩
theorem uQ (l:List bM)(i:Nat):∃r,fI l=fI (l.take i)++r:=⟨fI (l.drop i),by
 conv=>lhs;rw[←List.take_append_drop i l]
 unfold fI;rw[List.flatMap_append,qj]⟩
theorem nY (f:aR):aO f=f.params++fI f.Nm:=rfl
theorem sY {f:aR}{j i:Nat}{b:bM}{x:aB}(J:f.Nm[j]? =some b)(R:b.code[i]? =some x)(Y:x.dst≠dQ)(hm:x.dst∈(f.params++fI (f.Nm.take j))++fH (b.code.take i)):¬(aO f).Nodup:=by
 intro h;obtain⟨r1,o⟩:=uQ f.Nm (j+1);obtain⟨r2,C⟩:=uP b.code (i+1);rw[oG J] at o;rw[oF R,ah Y] at C;rw[nY,o,C] at h;have e:f.params++(fI (f.Nm.take j)++(fH (b.code.take i)++[x.dst]++r2)++r1)=(((f.params++fI (f.Nm.take j))++fH (b.code.take i))++[x.dst])++(r2++r1):=by simp
 rw[e] at h;have I:=(List.nodup_append.1 h).1;rw[List.nodup_append] at I;exact I.2.2 _ hm _ (by simp) rfl
theorem Hp {f:aR}{j i:Nat}{b:bM}(C:f.Nm[j]? =some b):((f.params++fI (f.Nm.take j))++fH (b.code.take i)).length≤(aO f).length:=by obtain⟨r1,o⟩:=uQ f.Nm (j+1);obtain⟨r2,I⟩:=uP b.code i;rw[oG C] at o;rw[nY,o,I];simp only[eV];omega
structure vZ (w:World)(b1 b2:Nat)(f:aR):Prop where
 Nm:bN w b1 (bg f)
 values:bN w b2 (aO f)
def Kx (f:aR)(w:World)(e:Ending)(w':World):Prop:=
 qi ((aO f).Nodup∧(bg f).Nodup) (fun e w'=>∃b1 b2,e=.returned (.agg #[.map (some b1),.map (some b2)])∧vZ w' b1 b2 f∧w.heap.size≤b1∧b1<w'.heap.size∧w.heap.size≤b2∧b2<w'.heap.size∧aa All w w') w e w'
theorem DY (S:Nat→Prop)(r:Value)(f:aR)(pv qv:Value)(w:World)(hp:cC S w pv f.params)(hq:ms S w qv f.Nm)(e6:aS f.Np)(e7:∀s∈f.params,s.size≤140737488355328)(hn:(aO f).length≤900000)(hb:f.Nm.length≤900000)(hS:∀b,S b→b<w.heap.size):
 Calls prog 89 #[r,.agg #[.string f.name,pv,qv,.int .i64 f.Np]] w (Kx f w):=by
 have h6:f.params.length≤900000:=by rw[nY,eV] at hn;omega
 have hP:=ap.la hp;have hQ:=dg.la hq;obtain⟨pA,pc,rfl,_⟩:=hp;obtain⟨qA,qc,rfl,m1,m2,m3,_⟩:=hq;unfold maxLen at m2;obtain⟨W0,a8⟩:=eQ ((w.alloc (.cells #[.string f.name,.slice pA f.params.length pc,.slice qA f.Nm.length qc,.int .i64 f.Np] 148)).alloc (.cells #[.map none,.map none] 167));have e8:W0.heap.size=w.heap.size+2:=by rw[a8];simp
 have e9:aa All w W0:=by rw[a8];exact(kR.alloc _).alloc _
 have bF:al W0 w.heap.size 148 #[.string f.name,.slice pA f.params.length pc,.slice qA f.Nm.length qc,.int .i64 f.Np]:=by rw[a8];exact(al.new _ _ _).alloc _
 have bR:al W0 (w.heap.size+1) 167 #[.map none,.map none]:=by rw[a8];exact ac (by simp)
 have c1:=bF.cell 1;have c2:=bF.cell 2;simp only[gc] at c1 c2;have HW:=J5 a8 e8 e9 bF bR;have HP:=J5 hP hQ e6 e7 hn;clear a8 e8 e9 bF bR hP hQ e6 e7 hn;go_enter func89,ntmps89;go_upto_region 1 with fail;rw[←HW.1];go_wp2_with fail;refine(uv S (.slice pA f.params.length pc) f.params w.heap.size f.name (.slice pA f.params.length pc) (.slice qA f.Nm.length qc) f.Np W0 (HP.1 _ HW.2.2.1) HW.2.2.2.1 HP.2.2.1 h6 HP.2.2.2.1).mono ?_;rintro e w2 (⟨C,b2,rfl,h0,d9,a7,b0⟩|⟨C,⟨an,nn,hn,ha,hi,rfl⟩,b0⟩)
 case inr=>have HS:=J5 (fun h:(aO f).Nodup∧(bg f).Nodup=>C (by have:=h.1;rw[nY,List.nodup_append] at this;exact this.1)) hn ha hi (HW.2.2.1.trans b0);clear C hn ha hi b0;go_wp2_with fail;exact⟨rfl,.inr ⟨HS.1,⟨an,nn,HS.2.1,HS.2.2.1,HS.2.2.2.1,rfl⟩,HS.2.2.2.2⟩⟩
 have d2:=(HW.2.2.2.1.kept b0 trivial).cell 2;simp only[gc] at d2;have H2:=J5 C h0 d9 a7 b0;clear C h0 d9 a7 b0 c1 c2;go_wp2_with fail;refine(us S (.slice qA f.Nm.length qc) f.Nm w2 (HP.2.1 _ (HW.2.2.1.trans H2.2.2.2.2)) hb).mono ?_;rintro e w3 (⟨C,b1,rfl,h1,j2,j3,a1⟩|⟨C,⟨an,nn,hn,ha,hi,rfl⟩,a1⟩)
 case inr=>have HS:=J5 (fun h:(aO f).Nodup∧(bg f).Nodup=>C h.2) hn ha hi ((HW.2.2.1.trans H2.2.2.2.2).trans a1);clear C hn ha hi a1 d2;go_wp2_with fail;exact⟨rfl,.inr ⟨HS.1,⟨an,nn,HS.2.1,HS.2.2.1,HS.2.2.2.1,rfl⟩,HS.2.2.2.2⟩⟩
 obtain⟨W4,c0⟩:=eQ (w3.alloc (.cells #[.map (some b1),.map (some b2)] 167));have b3:aa All w3 W4:=by rw[c0];exact kR.alloc _
 have b4:al W4 w3.heap.size 167 #[.map (some b1),.map (some b2)]:=by rw[c0];exact ac rfl
 have c7:W4.heap.size=w3.heap.size+1:=by rw[c0];simp
 have e2:=((HW.2.2.2.1.kept H2.2.2.2.2 trivial).kept (a1.trans b3) trivial).cell 2;simp only[gc] at e2;have L2:=H2.2.2.1;have L3:=H2.2.2.2.1;have L1:=HW.2.1;have j8:=dY L1.symm;have j9:=dY c7;have k0:=dY c7.symm;have e0:aa All w W4:=(HW.2.2.1.trans H2.2.2.2.2).trans (a1.trans b3);have H4:=J8 c0 b4 (h1.keep b3 trivial) (H2.2.1.keep (a1.trans b3) trivial) e0 C (a1.trans b3) c7;clear c0 b3 b4 c7 h1 a1 d2 C e0 L1;go_upto_region 3 with fail;rw[←H4.1];go_wp2_with fail;go_loopg [25] f.Nm.length (fun g h7 wr=>∃j:Nat,j≤f.Nm.length∧g=f.Nm.length-j∧h7=.int .i64 j∧aa (fun b=>b≠b2) W4 wr∧bN wr b2 (f.params++fI (f.Nm.take j))∧(f.params++fI (f.Nm.take j)).Nodup);·exact⟨0,by omega,by omega,rfl,kR,by rw[List.take_zero,show fI []=[] from rfl,List.append_nil];exact H4.2.2.2.1,by rw[List.take_zero,show fI []=[] from rfl,List.append_nil];exact H2.1⟩
 obtain⟨j,hj,rfl,rfl,I,hm,C⟩:=hrel;have j4:=I.size;have c3:aa All w wr:=aq (H4.2.2.2.2.1.all.trans (I.mono fun b hb=>by show b≠_;omega));by_cases h8:j<f.Nm.length;·(
 obtain⟨b,e3⟩:=eG h8;obtain⟨bb,o,cs,rfl,k1,k2,hc,vb,rfl,h2,j5,j6⟩:=bh (HP.2.1 wr c3) e3;have hV:=fK.la h2;obtain⟨cA,cc,rfl,n1,n2,n3,_⟩:=h2;unfold maxLen at n2;have z0:=hc 0 _ rfl;rw[cJ] at z0;have z1:=hc 1 _ rfl;have z2:=hc 2 _ rfl;obtain⟨W5,c8⟩:=eQ (wr.alloc (.cells #[.string b.name,.slice cA b.code.length cc,.int .i64 b.Np] 171));have e4:aa All wr W5:=by rw[c8];exact kR.alloc _
 have b5:al W5 wr.heap.size 171 #[.string b.name,.slice cA b.code.length cc,.int .i64 b.Np]:=by rw[c8];exact ac rfl
 have g1:=b5.cell 1;simp only[gc] at g1;obtain⟨wo,rfl⟩:=eQ wr;have k3:=hm.lt;have k4:wo.heap.size≤W5.heap.size:=e4.size;have HO:=J8 I hm C c3 e3 hV c8 e4;clear I hm C c3 e3 hV hc c8 e4 b5;go_upto_region 6 with fail;rw[←HO.2.2.2.2.2.2.1];go_wp2_with fail;go_loopg [32] b.code.length (fun g i1 wr=>∃i:Nat,i≤b.code.length∧g=b.code.length-i∧i1=.int .i64 i∧aa (fun b=>b≠b2) W5 wr∧bN wr b2 ((f.params++fI (f.Nm.take j))++fH (b.code.take i))∧((f.params++fI (f.Nm.take j))++fH (b.code.take i)).Nodup);·exact⟨0,by omega,by omega,rfl,kR,by rw[List.take_zero,show fH []=[] from rfl,List.append_nil];exact HO.2.1.keep HO.2.2.2.2.2.2.2 trivial,by rw[List.take_zero,show fH []=[] from rfl,List.append_nil];exact HO.2.2.1⟩
 obtain⟨i,hi,rfl,rfl,I,hm,C⟩:=hrel;have i6:=I.size;by_cases a7:i<b.code.length;·(
 obtain⟨x,hx⟩:=eG a7;obtain⟨xb,xo,k5,rfl,k6,j7,R,xa,xf,rfl,i7,j0,c9⟩:=bh (fK.keep (HO.2.2.2.2.2.2.2.all.trans (I.mono fun b hb=>by have:=hS b hb;show b≠_;omega)) (HO.2.2.2.2.2.1 _ kR)) hx;obtain⟨ua,uc,rfl,_⟩:=i7;obtain⟨va,vc,rfl,_⟩:=j0;have z0:=R 0 _ rfl;rw[cJ] at z0;have z1:=R 1 _ rfl;have z2:=R 2 _ rfl;have z3:=R 3 _ rfl;have z4:=R 4 _ rfl;have z5:=R 5 _ rfl;have z6:=R 6 _ rfl;have z7:=R 7 _ rfl;have z8:=R 8 _ rfl;obtain⟨W6,d7⟩:=eQ (wr.alloc (.cells #[.int .u8 x.kind,.int .u8 x.op,.string x.dst,.string x.ref,.string x.No,.slice ua x.args.length uc,.slice va x.Nn.length vc,.int .i64 x.num,.int .i64 x.Np] 185));have a6:aa All wr W6:=by rw[d7];exact kR.alloc _
 have b6:al W6 wr.heap.size 185 #[.int .u8 x.kind,.int .u8 x.op,.string x.dst,.string x.ref,.string x.No,.slice ua x.args.length uc,.slice va x.Nn.length vc,.int .i64 x.num,.int .i64 x.Np]:=by rw[d7];exact ac rfl
 have b7:=(((H4.2.1.kept HO.1 (by show _≠_;omega)).kept HO.2.2.2.2.2.2.2 trivial).kept I (by show _≠_;omega)).kept a6 trivial;have s1:=b7.cell 1;have t2:=b6.cell 2;have t8:=b6.cell 8;simp only[gc] at s1 t2 t8;have nr:=jj x.dst;have c4:=(hm.keep a6 trivial).look (s:=x.dst) (by have:=c9.dst;unfold maxLen;omega);have e5:=(hm.keep a6 trivial).len 3;have d8:=J3 c9.Np c9.dst (Hp (i:=i) HO.2.2.2.2.1);have e1:aa All w W6:=aq ((((H4.2.2.2.2.1.all.trans (HO.1.mono fun b hb=>by show b≠_;omega)).trans HO.2.2.2.2.2.2.2.all).trans (I.mono fun b hb=>by show b≠_;omega)).trans a6.all);have Y:=J8 I (hm.keep a6 trivial) C hx d7 a6 d8.out e1;clear I hm C hx d7 a6 b6 b7 R e1 c9;go_upto_region 9 with fail;rw[←Y.2.2.2.2.1];by_cases hd:x.dst=dQ
 ·rw[be hd] at nr;have HD:=oH hd;clear hd c4 e5;go_wp2_with fail;go_roundg (b.code.length-(i+1))
  ·have e:=oF Y.2.2.2.1;rw[am HD.out,List.append_nil] at e;refine⟨i+1,by omega,rfl,by go_num,Y.1.trans Y.2.2.2.2.2.1.all,?_,?_⟩;·rw[e];exact Y.2.1
   rw[e];exact Y.2.2.1
  omega
 rw[cN hd] at nr;have HD:=oH hd;clear hd;obtain⟨NM,b8⟩:=eR (((f.params++fI (f.Nm.take j))++fH (b.code.take i)));rw[b8] at c4 e5 Y;obtain⟨q,hq⟩:=eR (aH NM x.dst);rw[hq] at c4;by_cases J:0≤q;·rw[Int.max_eq_left J,be J] at c4;have HN:=oH (fun h:(aO f).Nodup∧(bg f).Nodup=>sY HO.2.2.2.2.1 Y.2.2.2.1 HD.out (by rw[b8];exact aY.1 (by rw[hq];exact J)) h.1);clear hq J e5 b8;go_wp2_with (go_at_call 83;refine(eP _ _ _).mono ?_;rintro e w4 ⟨rfl,rfl⟩);exact⟨rfl,.inr ⟨HN.out,⟨x.Np,9,by decide,d8.1,by unfold aS;omega,rfl⟩,Y.2.2.2.2.2.2.2⟩⟩
 rw[cN J] at c4;have HN:=J3 (show aH NM x.dst<0 by rw[hq];omega) (show¬(x.dst∈NM) from fun h=>by have:=aY.2 h;omega) b8;have j1:=oH (show NM.length≤900000 by rw[←b8];exact dA d8.2.2 HP.2.2.2.2);clear hq J b8;go_wp2_with (
  first
  |(at_mapUpdate
    go_loud (refine fR rfl _ _ _ rfl b2 NM rfl Y.2.1 (by have:=j1.out;omega) x.dst rfl rfl (by have:=d8.2.1;unfold maxLen;omega) HN.1 ?_;intro w7 h3 h4;have H7:=J2 h3 h4;clear h3 h4))
  |(go_at_call 83;refine(dl _ _ _).mono ?_;rintro e w4 ⟨rfl,rfl⟩))
 go_roundg (b.code.length-(i+1))
 ·have e:=oF Y.2.2.2.1;rw[ah HD.out] at e;refine⟨i+1,by omega,rfl,by go_num,(Y.1.trans Y.2.2.2.2.2.1.all).grown H7.2 fun b hb=>.inl fun h=>h (by injection hb with hb;exact hb.symm),?_,?_⟩;·rw[e,←jR,HN.2.2];exact H7.1
  rw[e,←jR,HN.2.2];exact jF Y.2.2.1 HN.2.1
 omega)
 obtain rfl:i=b.code.length:=by omega
 rw[jx] at hm C;have Y:=J3 I hm C;clear I hm C;go_wp2_with fail;go_roundg (f.Nm.length-(j+1))
 ·have e:=oG HO.2.2.2.2.1
  refine⟨j+1,by omega,rfl,by go_num,HO.1.trans (HO.2.2.2.2.2.2.2.all.trans Y.1),?_,?_⟩;·rw[e,←jR];exact Y.2.1
  rw[e,←jR];exact Y.2.2
 omega)
 obtain rfl:j=f.Nm.length:=by omega
 rw[jx] at hm C;have b7:=H4.2.1.kept I (by show _≠_;omega);have b9:=((HW.2.2.2.2.kept H2.2.2.2.2 trivial).kept H4.2.2.2.2.2.2.1 trivial).kept I (by show _≠_;omega);have s0:=b7.cell 0;have s1:=b7.cell 1;have r0:=b9.cell 0;have r1:=b9.cell 1;have f0:=b9.free 0;have f1:=b9.free 1;have c5:=(b9.set 0 (.map (some b1))).set 1 (.map (some b2));have g0:=c5.cell 0;have g1:=c5.cell 1;simp only[ga,gc] at s0 s1 r0 r1 g0 g1;have c6:=((aa.refl (fun b=>b≠w.heap.size+1) wr).setCell (p:=⟨w.heap.size+1,0,none⟩) (.inl fun h=>h rfl) (.map (some b1))).setCell (p:=⟨w.heap.size+1,1,none⟩) (.inl fun h=>h rfl) (.map (some b2));have h5:=(H4.2.2.1.keep I (by show _≠_;omega)).keep c6 (by show _≠_;omega);have HF:=J5 (hm.keep c6 (by show _≠_;omega)) h5 C (aq (c3.all.trans (c6.mono fun b hb=>by show b≠_;omega))) c6.size;clear I hm C b7 b9 c5 c6 h5 c3;go_wp2_with fail;have h9:=HF.2.2.2.2;refine bodyPost_ret (v:=.agg #[.map (some b1),.map (some b2)]) (by simp[results,Tryz.f89,go_sem,g0,g1]) rfl (.inl ⟨⟨HF.2.2.1,H4.2.2.2.2.2.1⟩,b1,b2,rfl,⟨HF.2.1,HF.1⟩,by omega,by omega,by omega,by omega,HF.2.2.2.1⟩)
end Go.Proofs.YtccbbkopmlnkpaaGreatDoor
