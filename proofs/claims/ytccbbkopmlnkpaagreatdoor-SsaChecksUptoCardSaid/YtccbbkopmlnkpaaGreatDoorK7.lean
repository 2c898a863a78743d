/- Part 8 of the proof (its last part says what is proved). No condition. -/
import Derived.Deep.CutBlock
import Derived.Test.YtccbbkopmlnkpaaGreatDoorK6
namespace Go.Proofs.YtccbbkopmlnkpaaGreatDoor
set_option maxRecDepth 100000
set_option maxHeartbeats 8000000
open Go.RowKit Go.Proofs.Tryz
theorem Bh (s:ByteArray)(w:World):Calls prog 135 #[.string s] w fun e j=>e=.returned (.string s)∧aa All w j:=by go_enter func135,ntmps135;go_wp2;go_ret;exact⟨rfl,kR⟩
theorem Bi (s:ByteArray)(j:Nat)(o:ByteArray)(p q:Value)(Nj:Int)(w:World)(C:al w j 148 #[.string o,p,q,.int .i64 Nj]):
 Calls prog 136 #[.string s,.pointer (some ⟨j,0,none⟩)] w fun e I=>e=.returned (.int .i64 Nj)∧aa All w I:=by
 have J:=C.cl 3;go_enter func136,ntmps136;go_wp2;go_ret;exact⟨rfl,kR⟩
theorem GR (j:ByteArray)(o:Option Addr)(C I:Nat)(J:Option Addr)(R Y:Nat)(Nj:Int)(w:World):Calls prog 87 #[.agg #[.string j,.slice o C I,.slice J R Y,.int .i64 Nj]] w fun e w'=>e=.returned (.string j)∧aa All w w':=by go_enter func87,ntmps87;go_wp2;go_ret;exact⟨rfl,kR.alloc _⟩
theorem GS (j:ByteArray)(o:Option Addr)(C I:Nat)(J:Option Addr)(R Y:Nat)(Nj:Int)(w:World):Calls prog 88 #[.agg #[.string j,.slice o C I,.slice J R Y,.int .i64 Nj]] w fun e w'=>e=.returned (.int .i64 Nj)∧aa All w w':=by go_enter func88,ntmps88;go_wp2;go_ret;exact⟨rfl,kR.alloc _⟩
theorem Bj (j:ByteArray)(o:Option Addr)(C I:Nat)(Nj:Int)(w:World):Calls prog 138 #[.agg #[.string j,.slice o C I,.int .i64 Nj]] w fun e J=>e=.returned (.string j)∧aa All w J:=by go_enter func138,ntmps138;go_wp2;go_ret;exact⟨rfl,kR.alloc _⟩
theorem Bk (j:ByteArray)(o:Option Addr)(C I:Nat)(Nj:Int)(w:World):Calls prog 139 #[.agg #[.string j,.slice o C I,.int .i64 Nj]] w fun e J=>e=.returned (.int .i64 Nj)∧aa All w J:=by go_enter func139,ntmps139;go_wp2;go_ret;exact⟨rfl,kR.alloc _⟩
theorem kB {l:List ByteArray}{s:ByteArray}(h:l.Nodup)(j:s∉l):(l++[s]).Nodup:=by rw[List.nodup_append];exact⟨h,by simp,fun a o b C e=>by rw[cx.1 C] at e;exact j (e▸o)⟩
theorem jR {l:List ByteArray}{k:Nat}{s:ByteArray}(I:l[k]? =some s)(hm:s∈l.take k):¬l.Nodup:=by intro h;obtain⟨i,hi⟩:=List.getElem?_of_mem hm;have j:=(lS.1 hi).1;rw[fN] at j;rw[rY (by omega)] at hi;have o:=lS.1 hi;have C:=lS.1 I;have:=(List.getElem_inj (h₀:=o.1) (h₁:=C.1) h).1 (o.2.trans C.2.symm);omega
def rU (l:List ByteArray)(w:World)(e:Ending)(j:World):Prop:=ql l.Nodup (fun e j=>∃b,e=.returned (.map (some b))∧cK j b l∧w.heap.size≤b∧b<j.heap.size∧aa All w j) w e j
theorem am {w j:World}(h:aa (fun b=>b<w.heap.size) w j):aa All w j:=⟨h.os,h.output,h.size,fun k o _=>h.block k o o⟩
theorem un (S:Nat→Prop)(v:Value)(l:List ByteArray)(bf:Nat)(nm:ByteArray)(p q:Value)(Nj:Int)(w:World)(hv:gB S w v l)(hf:al w bf 148 #[.string nm,p,q,.int .i64 Nj])(c8:aV Nj)(hl:l.length≤900000)(b6:∀s∈l,s.size≤140737488355328):
 Calls prog 134 #[v,.func (.func 135) #[] #[],.func (.func 136) #[] #[.pointer (some ⟨bf,0,none⟩)]] w (rU l w):=by
 have b7:=ax.la hv;obtain⟨A1,c1,rfl,l1,l2,l3,_⟩:=hv;unfold maxLen at l2;have HV:=oH b7;clear b7;obtain⟨W0,Y⟩:=eQ (w.alloc (.map #[] 0));have b8:cK W0 w.heap.size []:=by rw[Y];exact cK.new w
 have b9:=aC1 Y;have c0:=aD1 Y;have HF:=J2 hf b6;clear hf b6;have H0:=J4 Y b8 b9 c0;clear Y b8 b9 c0;have c9:=@run_makeMap prog;go_enter func134,ntmps134;go_upto_region 2 with fail;clear c9;rw[←H0.1];go_wp2_with fail;go_loopg [15] l.length (fun g d7 wr=>∃j:Nat,j≤l.length∧g=l.length-j∧d7=.int .i64 j∧aa (fun b=>b≠w.heap.size) W0 wr∧cK wr w.heap.size (l.take j)∧(l.take j).Nodup);·exact⟨0,by omega,by omega,rfl,kR,H0.2.1,by simp⟩
 obtain⟨j,hj,rfl,rfl,a1,hm,a6⟩:=hrel;have J:aa All w wr:=am (H0.2.2.1.all.trans (a1.mono fun b hb=>by show b≠_;omega));by_cases d8:j<l.length;·(
 obtain⟨s,hs⟩:=eG d8;obtain⟨bb,o,cc,rfl,e2,e3,rfl⟩:=bn (HV.out wr J) hs;have e4:=HF.2 s (mG hs);have c2:l[j]? =some s:=hs;obtain⟨W1,b1⟩:=eQ wr;have b2:aa All wr W1:=by rw[b1];exact kR
 have HA:=J2 (fun wn=>Bh s wn) (fun wn (hk:aa All W1 wn)=>Bi s bf nm p q Nj wn (((HF.1.kept J trivial).kept b2 trivial).kept hk trivial));have d9:=oH (show aV Nj from c8);have R:=J7 a1 hm a6 J c2 b1 b2;clear a1 hm a6 J c2 b1 b2;go_upto_region 5 with fail;skip;go_wp2_with fail;refine(HA.1 _).mono ?_;rintro e w2 ⟨rfl,b3⟩;have a7:aa All wr w2:=b3;have c3:aa All W1 w2:=by rw[R.2.2.2.2.2.1];exact b3
 have b4:=R.2.1.keep a7 trivial;have a8:=b4.look (s:=s) (by unfold maxLen;omega);have H2:=J3 a7 c3 b4;clear a7 c3 b4 b3;obtain⟨r,hr⟩:=eR (aO (l.take j) s);rw[hr] at a8;by_cases C:0≤r;·rw[Int.max_eq_left C,bL C] at a8;have HN:=oH (fun h:l.Nodup=>jR R.2.2.2.2.1 (cm.1 (by rw[hr];exact C)) h);clear hr C;go_wp2_with fail;refine(HA.2 _ H2.2.1).mono ?_;rintro e w3 ⟨rfl,I⟩;have c4:=oH I;clear I;go_wp2_with (go_at_call 83;refine(fP _ _ _).mono ?_;rintro e w4 ⟨rfl,rfl⟩);exact⟨rfl,.inr ⟨HN.out,⟨Nj,9,by decide,d9.out,by unfold aV;omega,rfl⟩,(R.2.2.2.1.trans H2.1).trans c4.out⟩⟩
 rw[cI C] at a8;have HN:=J2 (show aO (l.take j) s<0 by rw[hr];omega) (show¬(s∈l.take j) from fun h=>by have:=cm.2 h;omega);clear hr C;go_wp2_with fail;refine(HA.2 _ H2.2.1).mono ?_;rintro e w3 ⟨rfl,I⟩;have c4:=oH (H2.2.1.trans I);have e0:=oH (H2.2.2.keep I trivial);have e1:=oH (H2.1.trans I);clear I a8;go_wp2_with (go_at_call 83;refine(dX _ _ _).mono ?_;rintro e w4 ⟨rfl,rfl⟩);refine(HA.1 _).mono ?_;rintro e w5 ⟨rfl,b5⟩;have b0:(l.take j).length=j:=by rw[fN];omega
 have c5:=J2 (e0.out.keep b5 trivial) (e1.out.trans b5);clear b5;go_wp2_with (at_mapUpdate;go_loud (refine gN rfl _ _ _ rfl w.heap.size _ rfl c5.1 (by rw[b0];omega) _ rfl (by rw[b0];rfl) (by unfold maxLen;omega) HN.1 ?_;intro w6 c6 c7;have H6:=J2 c6 c7;clear c6 c7));go_roundg (l.length-(j+1))
 ·have e:l.take (j+1)=l.take j++[s]:=by rw[cU,R.2.2.2.2.1];rfl
  refine⟨j+1,by omega,rfl,by go_num,(R.1.trans c5.2.all).grown H6.2 fun b hb=>.inl fun h=>h (by injection hb with hb;exact hb.symm),?_,?_⟩;·rw[e];exact H6.1
  rw[e];exact kB R.2.2.1 HN.2
 omega)
 obtain rfl:j=l.length:=by omega
 rw[oF (by simp)] at hm a6;have R:=J4 a1 hm a6 J;clear a1 hm a6 J;go_wp2_with fail;go_ret;have:=R.1.size;have:=H0.2.2.2;exact .inl ⟨R.2.2.1,_,rfl,R.2.1,by omega,by omega,R.2.2.2⟩
theorem um (S:Nat→Prop)(v:Value)(l:List cD)(w:World)(hv:BC S w v l)(hl:l.length≤900000):
 Calls prog 86 #[v,.func (.func 87) #[] #[],.func (.func 88) #[] #[]] w (rU (l.map fun x=>x.name) w):=by
 have b8:=iX.la hv;obtain⟨A1,c1,rfl,l1,l2,l3,_⟩:=hv;unfold maxLen at l2;have HV:=oH b8;clear b8;obtain⟨W0,a1⟩:=eQ (w.alloc (.map #[] 0));have b9:cK W0 w.heap.size []:=by rw[a1];exact cK.new w
 have c0:=aC1 a1;have c2:=aD1 a1;have H0:=J4 a1 b9 c0 c2;clear a1 b9 c0 c2;have d7:=@run_makeMap prog;go_enter func86,ntmps86;go_upto_region 2 with fail;clear d7;rw[←H0.1];go_wp2_with fail;go_loopg [15] l.length (fun g d8 wr=>∃j:Nat,j≤l.length∧g=l.length-j∧d8=.int .i64 j∧aa (fun b=>b≠w.heap.size) W0 wr∧cK wr w.heap.size ((l.map fun x=>x.name).take j)∧((l.map fun x=>x.name).take j).Nodup);·exact⟨0,by omega,by omega,rfl,kR,H0.2.1,by simp⟩
 obtain⟨j,hj,rfl,rfl,a6,hm,a7⟩:=hrel;have a8:aa All w wr:=am (H0.2.2.1.all.trans (a6.mono fun b hb=>by show b≠_;omega));by_cases d9:j<l.length;·(
 obtain⟨x,hx⟩:=eG d9;obtain⟨bb,o,cs,rfl,e7,e8,hc,vp,vb,rfl,e0,e1,e2,e3,_⟩:=aZ (HV.out wr a8) hx;obtain⟨p1,p3,rfl,_⟩:=e0;obtain⟨q1,q3,rfl,_⟩:=e1;have z0:=hc 0 _ rfl;rw[dj] at z0;have z1:=hc 1 _ rfl;have z2:=hc 2 _ rfl;have z3:=hc 3 _ rfl;have c3:(l.map fun x=>x.name)[j]? =some x.name:=by rw[cL,hx];rfl
 have e9:=e3;obtain⟨W1,b2⟩:=eQ (wr.alloc (.cells #[.string x.name,.slice p1 x.params.length p3,.slice q1 x.Ng.length q3,.int .i64 x.Nj] 148));have c4:=aC1 b2;have b1:=aA0 b2;have c5:∀wn,aa All W1 wn→∀i,wn.cell? ⟨wr.heap.size,i,none⟩=(#[.string x.name,.slice p1 x.params.length p3,.slice q1 x.Ng.length q3,.int .i64 x.Nj]:Array Value)[i]?:=fun wn hk i=>(b1.kept hk trivial).cell i;have HA:=J2 (fun wn=>GR x.name p1 x.params.length p3 q1 x.Ng.length q3 x.Nj wn) (fun wn (_:aa All W1 wn)=>GS x.name p1 x.params.length p3 q1 x.Ng.length q3 x.Nj wn);have Y:=oH c5;have e4:=oH (show aV x.Nj from e2);clear c5 b1 hc;have J:=J7 a6 hm a7 a8 c3 b2 c4;clear a6 hm a7 a8 c3 b2 c4;go_upto_region 5 with fail;rw[←J.2.2.2.2.2.1];have g0:=Y.out W1 kR 0;have g1:=Y.out W1 kR 1;have g2:=Y.out W1 kR 2;have g3:=Y.out W1 kR 3;simp only[gc] at g0 g1 g2 g3;go_wp2_with fail;refine(HA.1 _).mono ?_;rintro e w2 ⟨rfl,b5⟩;have b0:aa All wr w2:=J.2.2.2.2.2.2.trans b5;have c6:aa All W1 w2:=b5;have b6:=J.2.1.keep b0 trivial;have b3:=b6.look (s:=x.name) (by unfold maxLen;omega);have H2:=J3 b0 c6 b6;clear b0 c6 b6 b5;have k0:=Y.out w2 (H2.2.1) 0;have k1:=Y.out w2 (H2.2.1) 1;have k2:=Y.out w2 (H2.2.1) 2;have k3:=Y.out w2 (H2.2.1) 3;simp only[gc] at k0 k1 k2 k3;obtain⟨r,hr⟩:=eR (aO ((l.map fun x=>x.name).take j) x.name);rw[hr] at b3;by_cases C:0≤r;·rw[Int.max_eq_left C,bL C] at b3;have HN:=oH (fun h:(l.map fun x=>x.name).Nodup=>jR J.2.2.2.2.1 (cm.1 (by rw[hr];exact C)) h);clear hr C;go_wp2_with fail;refine(HA.2 _ H2.2.1).mono ?_;rintro e w3 ⟨rfl,I⟩;have R:=oH I;clear I;go_wp2_with (go_at_call 83;refine(fP _ _ _).mono ?_;rintro e w4 ⟨rfl,rfl⟩);exact⟨rfl,.inr ⟨HN.out,⟨x.Nj,9,by decide,e4.out,by unfold aV;omega,rfl⟩,(J.2.2.2.1.trans H2.1).trans R.out⟩⟩
 rw[cI C] at b3;have HN:=J2 (show aO ((l.map fun x=>x.name).take j) x.name<0 by rw[hr];omega) (show¬(x.name∈(l.map fun x=>x.name).take j) from fun h=>by have:=cm.2 h;omega);clear hr C;go_wp2_with fail;refine(HA.2 _ H2.2.1).mono ?_;rintro e w3 ⟨rfl,I⟩;have R:=oH (H2.2.1.trans I);have e5:=oH (H2.2.2.keep I trivial);have e6:=oH (H2.1.trans I);clear I b3;have m0:=Y.out w3 (R.out) 0;have m1:=Y.out w3 (R.out) 1;have m2:=Y.out w3 (R.out) 2;have m3:=Y.out w3 (R.out) 3;simp only[gc] at m0 m1 m2 m3;go_wp2_with (go_at_call 83;refine(dX _ _ _).mono ?_;rintro e w4 ⟨rfl,rfl⟩);refine(HA.1 _).mono ?_;rintro e w5 ⟨rfl,b7⟩;have b4:((l.map fun x=>x.name).take j).length=j:=by rw[fN,ce];omega
 have c7:=J2 (e5.out.keep b7 trivial) (e6.out.trans b7);clear b7;go_wp2_with (at_mapUpdate;go_loud (refine gN rfl _ _ _ rfl w.heap.size _ rfl c7.1 (by rw[b4];omega) _ rfl (by rw[b4];rfl) (by unfold maxLen;omega) HN.1 ?_;intro w6 c8 c9;have H6:=J2 c8 c9;clear c8 c9));go_roundg (l.length-(j+1))
 ·have e:(l.map fun x=>x.name).take (j+1)=(l.map fun x=>x.name).take j++[x.name]:=by rw[cU,J.2.2.2.2.1];rfl
  refine⟨j+1,by omega,rfl,by go_num,(J.1.trans c7.2.all).grown H6.2 fun b hb=>.inl fun h=>h (by injection hb with hb;exact hb.symm),?_,?_⟩;·rw[e];exact H6.1
  rw[e];exact kB J.2.2.1 HN.2
 omega)
 obtain rfl:j=l.length:=by omega
 rw[oF (by simp)] at hm a7;have J:=J4 a6 hm a7 a8;clear a6 hm a7 a8;go_wp2_with fail;go_ret;have:=J.1.size;have:=H0.2.2.2;exact .inl ⟨J.2.2.1,_,rfl,J.2.1,by omega,by omega,J.2.2.2⟩
theorem ul (S:Nat→Prop)(v:Value)(l:List eS)(w:World)(hv:mJ S w v l)(hl:l.length≤900000):
 Calls prog 137 #[v,.func (.func 138) #[] #[],.func (.func 139) #[] #[]] w (rU (l.map fun x=>x.name) w):=by
 have b7:=eH.la hv;obtain⟨A1,c1,rfl,l1,l2,l3,_⟩:=hv;unfold maxLen at l2;have HV:=oH b7;clear b7;obtain⟨W0,R⟩:=eQ (w.alloc (.map #[] 0));have b8:cK W0 w.heap.size []:=by rw[R];exact cK.new w
 have b9:=aC1 R;have c0:=aD1 R;have H0:=J4 R b8 b9 c0;clear R b8 b9 c0;have c9:=@run_makeMap prog;go_enter func137,ntmps137;go_upto_region 2 with fail;clear c9;rw[←H0.1];go_wp2_with fail;go_loopg [15] l.length (fun g d7 wr=>∃j:Nat,j≤l.length∧g=l.length-j∧d7=.int .i64 j∧aa (fun b=>b≠w.heap.size) W0 wr∧cK wr w.heap.size ((l.map fun x=>x.name).take j)∧((l.map fun x=>x.name).take j).Nodup);·exact⟨0,by omega,by omega,rfl,kR,H0.2.1,by simp⟩
 obtain⟨j,hj,rfl,rfl,Y,hm,a1⟩:=hrel;have a6:aa All w wr:=am (H0.2.2.1.all.trans (Y.mono fun b hb=>by show b≠_;omega));by_cases d8:j<l.length;·(
 obtain⟨x,hx⟩:=eG d8;obtain⟨bb,o,cs,rfl,e5,e6,hc,vb,rfl,d9,e0,e1⟩:=aZ (HV.out wr a6) hx;obtain⟨q1,q3,rfl,_⟩:=d9;have z0:=hc 0 _ rfl;rw[dj] at z0;have z1:=hc 1 _ rfl;have z2:=hc 2 _ rfl;have c2:(l.map fun x=>x.name)[j]? =some x.name:=by rw[cL,hx];rfl
 have e7:=e1;obtain⟨W1,b0⟩:=eQ (wr.alloc (.cells #[.string x.name,.slice q1 x.code.length q3,.int .i64 x.Nj] 171));have c3:=aC1 b0;have b1:=aA0 b0;have c4:∀wn,aa All W1 wn→∀i,wn.cell? ⟨wr.heap.size,i,none⟩=(#[.string x.name,.slice q1 x.code.length q3,.int .i64 x.Nj]:Array Value)[i]?:=fun wn hk i=>(b1.kept hk trivial).cell i;have HA:=J2 (fun wn=>Bj x.name q1 x.code.length q3 x.Nj wn) (fun wn (_:aa All W1 wn)=>Bk x.name q1 x.code.length q3 x.Nj wn);have HC:=oH c4;have e2:=oH (show aV x.Nj from e0);clear c4 b1 hc;have J:=J7 Y hm a1 a6 c2 b0 c3;clear Y hm a1 a6 c2 b0 c3;go_upto_region 5 with fail;rw[←J.2.2.2.2.2.1];have g0:=HC.out W1 kR 0;have g1:=HC.out W1 kR 1;have g2:=HC.out W1 kR 2;simp only[gc] at g0 g1 g2;go_wp2_with fail;refine(HA.1 _).mono ?_;rintro e w2 ⟨rfl,b4⟩;have a7:aa All wr w2:=J.2.2.2.2.2.2.trans b4;have c5:aa All W1 w2:=b4;have b5:=J.2.1.keep a7 trivial;have b2:=b5.look (s:=x.name) (by unfold maxLen;omega);have H2:=J3 a7 c5 b5;clear a7 c5 b5 b4;have k0:=HC.out w2 (H2.2.1) 0;have k1:=HC.out w2 (H2.2.1) 1;have k2:=HC.out w2 (H2.2.1) 2;simp only[gc] at k0 k1 k2;obtain⟨r,hr⟩:=eR (aO ((l.map fun x=>x.name).take j) x.name);rw[hr] at b2;by_cases C:0≤r;·rw[Int.max_eq_left C,bL C] at b2;have HN:=oH (fun h:(l.map fun x=>x.name).Nodup=>jR J.2.2.2.2.1 (cm.1 (by rw[hr];exact C)) h);clear hr C;go_wp2_with fail;refine(HA.2 _ H2.2.1).mono ?_;rintro e w3 ⟨rfl,I⟩;have a8:=oH I;clear I;go_wp2_with (go_at_call 83;refine(fP _ _ _).mono ?_;rintro e w4 ⟨rfl,rfl⟩);exact⟨rfl,.inr ⟨HN.out,⟨x.Nj,9,by decide,e2.out,by unfold aV;omega,rfl⟩,(J.2.2.2.1.trans H2.1).trans a8.out⟩⟩
 rw[cI C] at b2;have HN:=J2 (show aO ((l.map fun x=>x.name).take j) x.name<0 by rw[hr];omega) (show¬(x.name∈(l.map fun x=>x.name).take j) from fun h=>by have:=cm.2 h;omega);clear hr C;go_wp2_with fail;refine(HA.2 _ H2.2.1).mono ?_;rintro e w3 ⟨rfl,I⟩;have a8:=oH (H2.2.1.trans I);have e3:=oH (H2.2.2.keep I trivial);have e4:=oH (H2.1.trans I);clear I b2;have m0:=HC.out w3 (a8.out) 0;have m1:=HC.out w3 (a8.out) 1;have m2:=HC.out w3 (a8.out) 2;simp only[gc] at m0 m1 m2;go_wp2_with (go_at_call 83;refine(dX _ _ _).mono ?_;rintro e w4 ⟨rfl,rfl⟩);refine(HA.1 _).mono ?_;rintro e w5 ⟨rfl,b6⟩;have b3:((l.map fun x=>x.name).take j).length=j:=by rw[fN,ce];omega
 have c6:=J2 (e3.out.keep b6 trivial) (e4.out.trans b6);clear b6;go_wp2_with (at_mapUpdate;go_loud (refine gN rfl _ _ _ rfl w.heap.size _ rfl c6.1 (by rw[b3];omega) _ rfl (by rw[b3];rfl) (by unfold maxLen;omega) HN.1 ?_;intro w6 c7 c8;have H6:=J2 c7 c8;clear c7 c8));go_roundg (l.length-(j+1))
 ·have e:(l.map fun x=>x.name).take (j+1)=(l.map fun x=>x.name).take j++[x.name]:=by rw[cU,J.2.2.2.2.1];rfl
  refine⟨j+1,by omega,rfl,by go_num,(J.1.trans c6.2.all).grown H6.2 fun b hb=>.inl fun h=>h (by injection hb with hb;exact hb.symm),?_,?_⟩;·rw[e];exact H6.1
  rw[e];exact kB J.2.2.1 HN.2
 omega)
 obtain rfl:j=l.length:=by omega
 rw[oF (by simp)] at hm a1;have J:=J4 Y hm a1 a6;clear Y hm a1 a6;go_wp2_with fail;go_ret;have:=J.1.size;have:=H0.2.2.2;exact .inl ⟨J.2.2.1,_,rfl,J.2.1,by omega,by omega,J.2.2.2⟩
theorem gT (s:ByteArray)(w:World):Calls prog 130 #[.string s] w fun e J=>e=.returned (.bool (aB s))∧aa All w J:=by
 have j:=yL s w;have hw:=fun w=>zC s w;unfold aB;cases h:dW s with
 |true=>rw[h] at j;have C:=J2 j hw;clear j hw h;generalize jv s=b at*;go_enter func130,ntmps130;go_wp2_with (first|(go_at_call 153;refine C.1.mono ?_;rintro e R ⟨rfl,o⟩;have I:=oH o;clear o)|(go_at_call 154;refine(C.2 _).mono ?_;rintro e J ⟨rfl,rfl⟩));go_ret;exact⟨by simp,I.out⟩
 |false=>rw[h] at j;have C:=oH j;clear j hw h;go_enter func130,ntmps130;go_wp2_with (go_at_call 153;refine C.out.mono ?_;rintro e R ⟨rfl,o⟩;have I:=oH o;clear o);go_ret;exact⟨rfl,I.out⟩
def cC (l:List ByteArray):Prop:=∀s∈l,aB s=true
theorem wh {l:List ByteArray}:cC l↔∀(i:Nat) s,l[i]? =some s→aB s=true:=
 ⟨fun h _ _ j=>h _ (mG j),fun h s j=>by obtain⟨i,hi⟩:=cY.1 j;exact h i s hi⟩
theorem nw (S:Nat→Prop)(v:Value)(l:List ByteArray)(w:World)(hv:gB S w v l):Calls prog 196 #[v] w fun e w'=>e=.returned (.bool (pB (cC l)))∧aa All w w':=by
 have a1:=hv;obtain⟨A,cap,rfl,h1,h2,h3,_⟩:=hv;unfold maxLen at h2;have HV:=oH a1;clear a1;go_enter func196,ntmps196;go_wp2;go_loopg [7] l.length (fun g i wr=>∃k:Nat,k≤l.length∧g=l.length-k∧i=.int .i64 k∧aa All w wr∧∀(i:Nat) s,i<k→l[i]? =some s→aB s=true);·exact⟨0,by omega,by omega,rfl,kR,fun i s hi=>by omega⟩
 obtain⟨k,hk,rfl,rfl,J,C⟩:=hrel;have HA:=J2 J C;by_cases a6:k<l.length;·(
 obtain⟨s,R⟩:=eG a6;obtain⟨bb,o,rfl,_,hc⟩:=Bs (ax.keep (S:=S) J.all HV.out) R;clear J C;have j:=gT s wr;have HS:=oH R;clear R;cases Y:aB s with
 |true=>
  rw[Y] at j;have HN:=J2 Y j;clear Y j;go_wp2_with (go_at_call 130;refine HN.2.mono ?_;rintro e w1 ⟨rfl,I⟩;have H1:=oH I;clear I);go_roundg (l.length-(k+1))
  ·refine⟨k+1,by omega,rfl,by go_num,HA.1.trans H1.out,fun i t hi ht=>?_⟩;by_cases e:i=k;·subst e;rw[HS.out] at ht;cases ht;exact HN.1
   exact HA.2 i t (by omega) ht
  omega
 |false=>rw[Y] at j;have a7:=oH (au (P:=cC l) fun h=>by have:=h s (mG HS.out);rw[Y] at this;cases this);have HN:=oH j;clear Y j;go_wp2_with (go_at_call 130;refine HN.out.mono ?_;rintro e w1 ⟨rfl,I⟩;have H1:=oH I;clear I);go_ret;exact⟨by rw[a7.out];rfl,HA.1.trans H1.out⟩)
 obtain rfl:k=l.length:=by omega
 clear J C;have HY:=oH (av (P:=cC l) (wh.2 fun i s R=>HA.2 i s (lS.1 R).1 R));go_wp2;go_ret;exact⟨by rw[HY.out];rfl,HA.1⟩
theorem jY (s:ByteArray):s.toList.isEmpty=decide (s=gR):=by have h:=cM (x:=s) (y:=gR);rw[Bool.eq_iff_iff,decide_eq_true_iff,←h];simp[gR]
theorem lE (s:ByteArray)(b:Bool)(w:World):Calls prog 233 #[.string s,.bool b] w fun e Y=>e=.returned (.bool (pB (fS s b)))∧aa All w Y:=by
 cases b with
 |true=>
  have R:=gT s w;have j:fS s true↔aB s=true:=by unfold fS;rw[ap rfl]
  generalize aB s=nm at*;have I:=J2 R j;clear R j;cases nm with
  |true=>have o:=oH (av (I.2.2 rfl));go_enter func233,ntmps233;go_wp2_with (go_at_call 130;refine I.1.mono ?_;rintro e w1 ⟨rfl,C⟩;have J:=oH C;clear C);go_ret;exact⟨by rw[o.out];rfl,J.out⟩
  |false=>have o:=oH (au (P:=fS s true) fun h=>Bool.noConfusion (I.2.1 h));go_enter func233,ntmps233;go_wp2_with (go_at_call 130;refine I.1.mono ?_;rintro e w1 ⟨rfl,C⟩;have J:=oH C;clear C);go_ret;exact⟨by rw[o.out];rfl,J.out⟩
 |false=>
  have j:fS s false↔s=gR:=by unfold fS;rw[ae oG]
  have o:Hid (pB (fS s false)=decide (s=gR)):=oH (by
   by_cases h:s=gR;·rw[bL h];exact av (j.2 h)
   rw[cI h];exact au fun h'=>h (j.1 h'))
  clear j;go_enter func233,ntmps233;go_wp2_with fail;go_ret;exact⟨by rw[o.out,←jY];simp,kR⟩
def gG (l:List cX):List ByteArray:=(l.map fun x=>x.dst).filter fun s=>decide (s≠gR)
def gH (l:List eS):List ByteArray:=(l.flatMap fun b=>b.code.map fun x=>x.dst).filter fun s=>decide (s≠gR)
theorem zY (l:List eS)(b:eS):gH (l++[b])=gH l++gG b.code:=by simp[gH,gG]
theorem zX (l:List cX)(x:cX):gG (l++[x])=gG l++if x.dst=gR then [] else [x.dst]:=by
 unfold gG;rw[ic,mE];congr 1;by_cases h:x.dst=gR;·simp[h]
 simp[h]
theorem oN {l:List cX}{i:Nat}{x:cX}(h:l[i]? =some x):gG (l.take (i+1))=gG (l.take i)++if x.dst=gR then [] else [x.dst]:=by rw[cU,h];exact zX _ _
theorem oO {l:List eS}{i:Nat}{b:eS}(h:l[i]? =some b):gH (l.take (i+1))=gH (l.take i)++gG b.code:=by rw[cU,h];exact zY _ _
theorem uU (l:List cX)(i:Nat):∃r,gG l=gG (l.take i)++r:=⟨gG (l.drop i),by
 conv=>lhs;rw[←List.take_append_drop i l]
 unfold gG;rw[ic,mE]⟩
theorem uV (l:List eS)(i:Nat):∃r,gH l=gH (l.take i)++r:=⟨gH (l.drop i),by
 conv=>lhs;rw[←List.take_append_drop i l]
 unfold gH;rw[List.flatMap_append,mE]⟩
theorem nY (f:cD):bh f=f.params++gH f.Ng:=rfl
theorem tg {f:cD}{j i:Nat}{b:eS}{x:cX}(J:f.Ng[j]? =some b)(R:b.code[i]? =some x)(Y:x.dst≠gR)(hm:x.dst∈(f.params++gH (f.Ng.take j))++gG (b.code.take i)):¬(bh f).Nodup:=by
 intro h;obtain⟨r1,o⟩:=uV f.Ng (j+1);obtain⟨r2,C⟩:=uU b.code (i+1);rw[oO J] at o;rw[oN R,ae Y] at C;rw[nY,o,C] at h;have e:f.params++(gH (f.Ng.take j)++(gG (b.code.take i)++[x.dst]++r2)++r1)=(((f.params++gH (f.Ng.take j))++gG (b.code.take i))++[x.dst])++(r2++r1):=by simp
 rw[e] at h;have I:=(List.nodup_append.1 h).1;rw[List.nodup_append] at I;exact I.2.2 _ hm _ (by simp) rfl
theorem Hx {f:cD}{j i:Nat}{b:eS}(C:f.Ng[j]? =some b):((f.params++gH (f.Ng.take j))++gG (b.code.take i)).length≤(bh f).length:=by obtain⟨r1,o⟩:=uV f.Ng (j+1);obtain⟨r2,I⟩:=uU b.code i;rw[oO C] at o;rw[nY,o,I];simp only[iQ];omega
structure wd (w:World)(b1 b2:Nat)(f:cD):Prop where
 Ng:cK w b1 (cn f)
 values:cK w b2 (bh f)
def KE (f:cD)(w:World)(e:Ending)(j:World):Prop:=
 ql ((bh f).Nodup∧(cn f).Nodup) (fun e j=>∃o C,e=.returned (.agg #[.map (some o),.map (some C)])∧wd j o C f∧w.heap.size≤o∧o<j.heap.size∧w.heap.size≤C∧C<j.heap.size∧aa All w j) w e j
theorem Ec (S:Nat→Prop)(r:Value)(f:cD)(pv qv:Value)(w:World)(hp:gB S w pv f.params)(hq:mJ S w qv f.Ng)(e6:aV f.Nj)(e7:∀s∈f.params,s.size≤140737488355328)(hn:(bh f).length≤900000)(hb:f.Ng.length≤900000)(hS:∀b,S b→b<w.heap.size):
 Calls prog 89 #[r,.agg #[.string f.name,pv,qv,.int .i64 f.Nj]] w (KE f w):=by
 have h6:f.params.length≤900000:=by rw[nY,iQ] at hn;omega
 have hP:=ax.la hp;have hQ:=eH.la hq;obtain⟨pA,pc,rfl,_⟩:=hp;obtain⟨qA,qc,rfl,m1,m2,m3,_⟩:=hq;unfold maxLen at m2;obtain⟨W0,a8⟩:=eQ ((w.alloc (.cells #[.string f.name,.slice pA f.params.length pc,.slice qA f.Ng.length qc,.int .i64 f.Nj] 148)).alloc (.cells #[.map none,.map none] 167));have e8:=aD2 a8;have e9:=aC2 a8;have bF:=aA1 a8;have bR:=aB0 a8 aE1;have c1:=bF.cl 1;have c2:=bF.cl 2;have HW:=J5 a8 e8 e9 bF bR;have HP:=J5 hP hQ e6 e7 hn;clear a8 e8 e9 bF bR hP hQ e6 e7 hn;go_enter func89,ntmps89;go_upto_region 1 with fail;rw[←HW.1];go_wp2_with fail;refine(un S (.slice pA f.params.length pc) f.params w.heap.size f.name (.slice pA f.params.length pc) (.slice qA f.Ng.length qc) f.Nj W0 (HP.1 _ HW.2.2.1) HW.2.2.2.1 HP.2.2.1 h6 HP.2.2.2.1).mono ?_;rintro e w2 (⟨C,b2,rfl,h0,d9,a7,b0⟩|⟨C,⟨an,nn,hn,ha,hi,rfl⟩,b0⟩)
 case inr=>have HS:=J5 (fun h:(bh f).Nodup∧(cn f).Nodup=>C (by have:=h.1;rw[nY,List.nodup_append] at this;exact this.1)) hn ha hi (HW.2.2.1.trans b0);clear C hn ha hi b0;go_wp2_with fail;exact⟨rfl,.inr ⟨HS.1,⟨an,nn,HS.2.1,HS.2.2.1,HS.2.2.2.1,rfl⟩,HS.2.2.2.2⟩⟩
 have d2:=(HW.2.2.2.1.kept b0 trivial).cl 2;have H2:=J5 C h0 d9 a7 b0;clear C h0 d9 a7 b0 c1 c2;go_wp2_with fail;refine(ul S (.slice qA f.Ng.length qc) f.Ng w2 (HP.2.1 _ (HW.2.2.1.trans H2.2.2.2.2)) hb).mono ?_;rintro e w3 (⟨C,b1,rfl,h1,j2,j3,a1⟩|⟨C,⟨an,nn,hn,ha,hi,rfl⟩,a1⟩)
 case inr=>have HS:=J5 (fun h:(bh f).Nodup∧(cn f).Nodup=>C h.2) hn ha hi ((HW.2.2.1.trans H2.2.2.2.2).trans a1);clear C hn ha hi a1 d2;go_wp2_with fail;exact⟨rfl,.inr ⟨HS.1,⟨an,nn,HS.2.1,HS.2.2.1,HS.2.2.2.1,rfl⟩,HS.2.2.2.2⟩⟩
 obtain⟨W4,c0⟩:=eQ (w3.alloc (.cells #[.map (some b1),.map (some b2)] 167));have b3:=aC1 c0;have b4:=aA0 c0;have c7:=aD1 c0;have e2:=((HW.2.2.2.1.kept H2.2.2.2.2 trivial).kept (a1.trans b3) trivial).cl 2;have L2:=H2.2.2.1;have L3:=H2.2.2.2.1;have L1:=HW.2.1;have j8:=eE L1.symm;have j9:=eE c7;have k0:=eE c7.symm;have e0:aa All w W4:=(HW.2.2.1.trans H2.2.2.2.2).trans (a1.trans b3);have H4:=J8 c0 b4 (h1.keep b3 trivial) (H2.2.1.keep (a1.trans b3) trivial) e0 C (a1.trans b3) c7;clear c0 b3 b4 c7 h1 a1 d2 C e0 L1;go_upto_region 3 with fail;rw[←H4.1];go_wp2_with fail;go_loopg [25] f.Ng.length (fun g h7 wr=>∃j:Nat,j≤f.Ng.length∧g=f.Ng.length-j∧h7=.int .i64 j∧aa (fun b=>b≠b2) W4 wr∧cK wr b2 (f.params++gH (f.Ng.take j))∧(f.params++gH (f.Ng.take j)).Nodup);·exact⟨0,by omega,by omega,rfl,kR,by rw[List.take_zero,show gH []=[] from rfl,List.append_nil];exact H4.2.2.2.1,by rw[List.take_zero,show gH []=[] from rfl,List.append_nil];exact H2.1⟩
 obtain⟨j,hj,rfl,rfl,I,hm,C⟩:=hrel;have j4:=I.size;have c3:aa All w wr:=am (H4.2.2.2.2.1.all.trans (I.mono fun b hb=>by show b≠_;omega));by_cases h8:j<f.Ng.length;·(
 obtain⟨b,e3⟩:=eG h8;obtain⟨bb,o,cs,rfl,k1,k2,hc,vb,rfl,h2,j5,j6⟩:=aZ (HP.2.1 wr c3) e3;have hV:=it.la h2;obtain⟨cA,cc,rfl,n1,n2,n3,_⟩:=h2;unfold maxLen at n2;have z0:=hc 0 _ rfl;rw[dj] at z0;have z1:=hc 1 _ rfl;have z2:=hc 2 _ rfl;obtain⟨W5,c8⟩:=eQ (wr.alloc (.cells #[.string b.name,.slice cA b.code.length cc,.int .i64 b.Nj] 171));have e4:=aC1 c8;have b5:=aA0 c8;have g1:=b5.cl 1;obtain⟨wo,rfl⟩:=eQ wr;have k3:=hm.lt;have k4:wo.heap.size≤W5.heap.size:=e4.size;have HO:=J8 I hm C c3 e3 hV c8 e4;clear I hm C c3 e3 hV hc c8 e4 b5;go_upto_region 6 with fail;rw[←HO.2.2.2.2.2.2.1];go_wp2_with fail;go_loopg [32] b.code.length (fun g i1 wr=>∃i:Nat,i≤b.code.length∧g=b.code.length-i∧i1=.int .i64 i∧aa (fun b=>b≠b2) W5 wr∧cK wr b2 ((f.params++gH (f.Ng.take j))++gG (b.code.take i))∧((f.params++gH (f.Ng.take j))++gG (b.code.take i)).Nodup);·exact⟨0,by omega,by omega,rfl,kR,by rw[List.take_zero,show gG []=[] from rfl,List.append_nil];exact HO.2.1.keep HO.2.2.2.2.2.2.2 trivial,by rw[List.take_zero,show gG []=[] from rfl,List.append_nil];exact HO.2.2.1⟩
 obtain⟨i,hi,rfl,rfl,I,hm,C⟩:=hrel;have i6:=I.size;by_cases a7:i<b.code.length;·(
 obtain⟨x,hx⟩:=eG a7;obtain⟨xb,xo,k5,rfl,k6,j7,R,xa,xf,rfl,i7,j0,c9⟩:=aZ (it.keep (HO.2.2.2.2.2.2.2.all.trans (I.mono fun b hb=>by have:=hS b hb;show b≠_;omega)) (HO.2.2.2.2.2.1 _ kR)) hx;obtain⟨ua,uc,rfl,_⟩:=i7;obtain⟨va,vc,rfl,_⟩:=j0;have z0:=R 0 _ rfl;rw[dj] at z0;have z1:=R 1 _ rfl;have z2:=R 2 _ rfl;have z3:=R 3 _ rfl;have z4:=R 4 _ rfl;have z5:=R 5 _ rfl;have z6:=R 6 _ rfl;have z7:=R 7 _ rfl;have z8:=R 8 _ rfl;obtain⟨W6,d7⟩:=eQ (wr.alloc (.cells #[.int .u8 x.kind,.int .u8 x.op,.string x.dst,.string x.ref,.string x.Ni,.slice ua x.args.length uc,.slice va x.Nh.length vc,.int .i64 x.num,.int .i64 x.Nj] 185));have a6:=aC1 d7;have b6:=aA0 d7;have b7:=(((H4.2.1.kept HO.1 (by show _≠_;omega)).kept HO.2.2.2.2.2.2.2 trivial).kept I (by show _≠_;omega)).kept a6 trivial;have s1:=b7.cl 1;have t2:=b6.cl 2;have t8:=b6.cl 8;have nr:=jY x.dst;have c4:=(hm.keep a6 trivial).look (s:=x.dst) (by have:=c9.dst;unfold maxLen;omega);have e5:=(hm.keep a6 trivial).len 3;have d8:=J3 c9.Nj c9.dst (Hx (i:=i) HO.2.2.2.2.1);have e1:aa All w W6:=am ((((H4.2.2.2.2.1.all.trans (HO.1.mono fun b hb=>by show b≠_;omega)).trans HO.2.2.2.2.2.2.2.all).trans (I.mono fun b hb=>by show b≠_;omega)).trans a6.all);have Y:=J8 I (hm.keep a6 trivial) C hx d7 a6 d8.out e1;clear I hm C hx d7 a6 b6 b7 R e1 c9;go_upto_region 9 with fail;rw[←Y.2.2.2.2.1];by_cases hd:x.dst=gR
 ·rw[bL hd] at nr;have HD:=oH hd;clear hd c4 e5;go_wp2_with fail;go_roundg (b.code.length-(i+1))
  ·have e:=oN Y.2.2.2.1;rw[ap HD.out,List.append_nil] at e;refine⟨i+1,by omega,rfl,by go_num,Y.1.trans Y.2.2.2.2.2.1.all,?_,?_⟩;·rw[e];exact Y.2.1
   rw[e];exact Y.2.2.1
  omega
 rw[cI hd] at nr;have HD:=oH hd;clear hd;obtain⟨NM,b8⟩:=eR (((f.params++gH (f.Ng.take j))++gG (b.code.take i)));rw[b8] at c4 e5 Y;obtain⟨q,hq⟩:=eR (aO NM x.dst);rw[hq] at c4;by_cases J:0≤q;·rw[Int.max_eq_left J,bL J] at c4;have HN:=oH (fun h:(bh f).Nodup∧(cn f).Nodup=>tg HO.2.2.2.2.1 Y.2.2.2.1 HD.out (by rw[b8];exact cm.1 (by rw[hq];exact J)) h.1);clear hq J e5 b8;go_wp2_with (go_at_call 83;refine(fP _ _ _).mono ?_;rintro e w4 ⟨rfl,rfl⟩);exact⟨rfl,.inr ⟨HN.out,⟨x.Nj,9,by decide,d8.1,by unfold aV;omega,rfl⟩,Y.2.2.2.2.2.2.2⟩⟩
 rw[cI J] at c4;have HN:=J3 (show aO NM x.dst<0 by rw[hq];omega) (show¬(x.dst∈NM) from fun h=>by have:=cm.2 h;omega) b8;have j1:=oH (show NM.length≤900000 by rw[←b8];exact fR d8.2.2 HP.2.2.2.2);clear hq J b8;go_wp2_with (
  first
  |(at_mapUpdate
    go_loud (refine gN rfl _ _ _ rfl b2 NM rfl Y.2.1 (by have:=j1.out;omega) x.dst rfl rfl (by have:=d8.2.1;unfold maxLen;omega) HN.1 ?_;intro w7 h3 h4;have H7:=J2 h3 h4;clear h3 h4))
  |(go_at_call 83;refine(dX _ _ _).mono ?_;rintro e w4 ⟨rfl,rfl⟩))
 go_roundg (b.code.length-(i+1))
 ·have e:=oN Y.2.2.2.1;rw[ae HD.out] at e;refine⟨i+1,by omega,rfl,by go_num,(Y.1.trans Y.2.2.2.2.2.1.all).grown H7.2 fun b hb=>.inl fun h=>h (by injection hb with hb;exact hb.symm),?_,?_⟩;·rw[e,←jM,HN.2.2];exact H7.1
  rw[e,←jM,HN.2.2];exact kB Y.2.2.1 HN.2.1
 omega)
 obtain rfl:i=b.code.length:=by omega
 rw[dZ] at hm C;have Y:=J3 I hm C;clear I hm C;go_wp2_with fail;go_roundg (f.Ng.length-(j+1))
 ·have e:=oO HO.2.2.2.2.1
  refine⟨j+1,by omega,rfl,by go_num,HO.1.trans (HO.2.2.2.2.2.2.2.all.trans Y.1),?_,?_⟩;·rw[e,←jM];exact Y.2.1
  rw[e,←jM];exact Y.2.2
 omega)
 obtain rfl:j=f.Ng.length:=by omega
 rw[dZ] at hm C;have b7:=H4.2.1.kept I (by show _≠_;omega);have b9:=((HW.2.2.2.2.kept H2.2.2.2.2 trivial).kept H4.2.2.2.2.2.2.1 trivial).kept I (by show _≠_;omega);have s0:=b7.cell 0;have s1:=b7.cell 1;have r0:=b9.cell 0;have r1:=b9.cell 1;have f0:=b9.free 0;have f1:=b9.free 1;have c5:=(b9.set 0 (.map (some b1))).set 1 (.map (some b2));have g0:=c5.cell 0;have g1:=c5.cell 1;simp only[ga,gc] at s0 s1 r0 r1 g0 g1;have c6:=((aa.refl (fun b=>b≠w.heap.size+1) wr).setCell (p:=⟨w.heap.size+1,0,none⟩) (.inl fun h=>h rfl) (.map (some b1))).setCell (p:=⟨w.heap.size+1,1,none⟩) (.inl fun h=>h rfl) (.map (some b2));have h5:=(H4.2.2.1.keep I (by show _≠_;omega)).keep c6 (by show _≠_;omega);have HF:=J5 (hm.keep c6 (by show _≠_;omega)) h5 C (am (c3.all.trans (c6.mono fun b hb=>by show b≠_;omega))) c6.size;clear I hm C b7 b9 c5 c6 h5 c3;go_wp2_with fail;have h9:=HF.2.2.2.2;refine bodyPost_ret (v:=.agg #[.map (some b1),.map (some b2)]) (by simp[results,Tryz.f89,go_sem,g0,g1]) rfl (.inl ⟨⟨HF.2.2.1,H4.2.2.2.2.2.1⟩,b1,b2,rfl,⟨HF.2.1,HF.1⟩,by omega,by omega,by omega,by omega,HF.2.2.2.1⟩)
theorem uq (j o C:Addr)(w:World):
 CallsD prog 82 #[.pointer (some j),.pointer (some o),.pointer (some C)] .returning w fun e I J=>e=.returned (.tuple #[])∧I=.returning∧J=w:=by
 refine callsD_of_wpS func82 rfl fun R cs hu=>?_;apply wpS_seq;apply wpS_region;simp[wpOpsS,go_sem,recoverD,hu,ntmps82,Exit.thenS];apply wpS_seq;apply wpS_region;simp[wpOpsS,go_sem,Exit.thenS];refine wpS_cond (t:=false) (by simp[Act.eval,Array.replicate]) ?_;simp only[jL,if_false];refine wpS_of_wp (wp_skip ?_);cases R;simp_all [bodyPostS,results,Tryz.results82]
theorem ur (j o C:Nat)(a n:Int)(v1 v2:Value)(m x5 x6:Int)(I:List PanicEntry)(w:World)(h4:al w j 30 #[v1,v2,.int .i64 m])(h5:al w o 3 #[.int .i64 x5])(h6:al w C 41 #[.int .i64 x6]):
 CallsD prog 82 #[.pointer (some ⟨j,0,none⟩),.pointer (some ⟨o,0,none⟩),.pointer (some ⟨C,0,none⟩)] (.panicking ({v:=.iface 153 (.agg #[.int .i64 a,.int .i64 n]),recovered:=false}::I)) w fun e u' w'=>e=.returned (.tuple #[])∧u'=.panicking ({v:=.iface 153 (.agg #[.int .i64 a,.int .i64 n]),recovered:=true}::I)∧
  aa (fun b=>b≠j∧b≠o∧b≠C) w w'∧al w' j 30 #[.slice none 0 0,.slice none 0 0,.int .i64 0]∧al w' o 3 #[.int .i64 a]∧al w' C 41 #[.int .i64 n]:=by
 refine callsD_of_wpS func82 rfl fun c₀ cs hu=>?_;apply wpS_seq;apply wpS_region;simp[wpOpsS,go_sem,recoverD,hu,ntmps82,Exit.thenS];apply wpS_seq;apply wpS_region;simp[wpOpsS,go_sem,Exit.thenS];refine wpS_cond (t:=true) (by simp[Act.eval,Array.replicate]) ?_;simp only[if_true];simp only[show Array.replicate 19 undef= #[undef,undef,undef,undef,undef,undef,undef,undef,undef,undef,undef,undef,undef,undef,undef,undef,undef,undef,undef] from rfl,List.setIfInBounds_toArray,List.set_cons_zero,List.set_cons_succ,List.append_toArray,List.cons_append,mF];refine wpS_of_wp ?_;have b1:(Instr.typeAssert (.iface 153 (.agg #[.int .i64 a,.int .i64 n])) 20 153 true).run prog w=.ok (.tuple #[.agg #[.int .i64 a,.int .i64 n],.bool true]) w:=by kernel_rfl
 go_upto_region 5 with fail;obtain⟨W1,J⟩:=eQ (w.alloc (.cells #[.int .i64 a,.int .i64 n] 153));rw[←J];have g4:=h4.alloc (.cells #[.int .i64 a,.int .i64 n] 153);have g5:=h5.alloc (.cells #[.int .i64 a,.int .i64 n] 153);have g6:=h6.alloc (.cells #[.int .i64 a,.int .i64 n] 153);rw[←J] at g4 g5 g6;have gs:=aA0 J;have a1:=aC1 J;have a6:j≠o:=fun e=>al.ne h4 h5 (by decide) e;have a7:j≠C:=fun e=>al.ne h4 h6 (by decide) e;have a8:o≠C:=fun e=>al.ne h5 h6 (by decide) e;have m4:j≠w.heap.size:=by have:=h4.lt;omega
 have m5:o≠w.heap.size:=by have:=h5.lt;omega
 have m6:C≠w.heap.size:=by have:=h6.lt;omega
 have R:=a6.symm;have Y:=a7.symm;have b0:=a8.symm;have r4:=m4.symm;have r5:=m5.symm;have r6:=m6.symm;have q0:=g4.cl 0;have q1:=g4.cl 1;have q2:=g4.cl 2;have q5:=g5.cl 0;have q6:=g6.cl 0;have s0:=gs.cl 0;have s1:=gs.cl 1;have f0:=g4.free 0;have f1:=g4.free 1;have f2:=g4.free 2;have f5:=g5.free 0;have f6:=g6.free 0;have HG:=J4 g4 g5 g6 a1;clear g4 g5 g6 gs a1 J
 go_region
 all_goals go_wp2_with fail
 have e4:=(((((HG.1.set 0 (.slice none 0 0)).set 1 (.slice none 0 0)).set 2 (.int .i64 0)).far (p:=⟨o,0,none⟩) a6 (.int .i64 a)).far (p:=⟨C,0,none⟩) a7 (.int .i64 n)).drew;have e5:=(((((HG.2.1.far (p:=⟨j,0,none⟩) R (.slice none 0 0)).far (p:=⟨j,1,none⟩) R (.slice none 0 0)).far (p:=⟨j,2,none⟩) R (.int .i64 0)).set 0 (.int .i64 a)).far (p:=⟨C,0,none⟩) a8 (.int .i64 n)).drew;have e6:=(((((HG.2.2.1.far (p:=⟨j,0,none⟩) Y (.slice none 0 0)).far (p:=⟨j,1,none⟩) Y (.slice none 0 0)).far (p:=⟨j,2,none⟩) Y (.int .i64 0)).far (p:=⟨o,0,none⟩) b0 (.int .i64 a)).set 0 (.int .i64 n)).drew;have ek:=((((((HG.2.2.2.mono fun b (_:¬b=j∧¬b=o∧¬b=C)=>trivial).setCell (p:=⟨j,0,none⟩) (.inl fun h=>h.1 rfl) (.slice none 0 0)).setCell (p:=⟨j,1,none⟩) (.inl fun h=>h.1 rfl) (.slice none 0 0)).setCell (p:=⟨j,2,none⟩) (.inl fun h=>h.1 rfl) (.int .i64 0)).setCell (p:=⟨o,0,none⟩) (.inl fun h=>h.2.1 rfl) (.int .i64 a)).setCell (p:=⟨C,0,none⟩) (.inl fun h=>h.2.2 rfl) (.int .i64 n)).drew;simp only[ga] at e4 e5 e6;generalize (((((W1.setCell _ _).setCell _ _).setCell _ _).setCell _ _).setCell _ _).drew=W2 at*;simp[bodyPostS,results,Tryz.results82,e4,e5,e6,ek]
def MC:List (Nat×rT):=[(1,⟨0,true,false,false⟩),(2,⟨2,true,false,false⟩),(4,⟨1,true,true,false⟩),(5,⟨1,true,true,false⟩),(6,⟨2,false,true,false⟩),(7,⟨-1,true,true,false⟩),(8,⟨0,true,true,false⟩),(9,⟨1,false,true,false⟩),(10,⟨1,true,true,false⟩),(11,⟨0,false,true,false⟩),(12,⟨1,false,true,true⟩),(13,⟨1,false,false,false⟩)]
def Ig (s:rT):Value:=.agg #[.int .i64 s.args,.bool s.dst,.bool s.ref,.bool s.Ni]
def mI (n:Nat):Array MapEntry:=((MC.take n).mapIdx fun i e=> {key:=.int .u8 e.1,val:=Ig e.2,born:=i}).toArray
theorem dC (es:Array MapEntry)(clock:Nat)(k:Int)(v:Value)(J:Instr.findNow (.int .u8) (.int .u8 k) es.toList 0=some none)(w:World):
 (Instr.mapUpdate 297 (.map (some w.heap.size)) (.int .u8 k) v).run prog (w.alloc (.map es clock))=.ok () (w.alloc (.map (es.push ⟨.int .u8 k,v,clock⟩) (clock+1))):=by
 have I:(w.alloc (.map es clock)).heap[w.heap.size]? =some (.map es clock):=by show(w.heap.push _)[w.heap.size]? =_;simp
 simp only[Instr.mapUpdate,Sem.run_bind,run_underlying underlying297,MapKept.run_getObj_map I,MapKept.run_checkKey underlying5 (show MapKept.IsKey (.int .u8) (.int .u8 k) from rfl),MapKept.run_findKey underlying5 J,MapKept.run_setObj_map _ I,Result.andThen];have e:∀o C:Obj,(w.heap.push o).setIfInBounds w.heap.size C=w.heap.push C:=by(
 intro o C;apply Array.ext_getElem?;intro j;rw[Array.getElem?_setIfInBounds,Array.getElem?_push,Array.getElem?_push];by_cases h:w.heap.size=j;·subst h;simp
 rw[ae h,ae (fun h'=>h h'.symm),ae (fun h'=>h h'.symm)])
 show Result.ok () ({w with heap:=(w.heap.push (.map es clock)).setIfInBounds w.heap.size _}:World)=Result.ok () ({w with heap:=w.heap.push _}:World);rw[e]
theorem fI (i:Nat)(k:Nat)(s:rT)(h:MC[i]? =some (k,s)):mI (i+1)=(mI i).push ⟨.int .u8 k,Ig s,i⟩:=by have hi:=(lS.1 h).1;unfold mI;rw[cU,h,List.mapIdx_append];simp only[Option.toList_some,List.mapIdx_cons,List.mapIdx_nil,fN,cN,List.push_toArray];rw[Nat.min_eq_left (by omega)]
theorem Bm (w:World):Calls prog 232 #[] w fun e j=>e=.returned (.map (some w.heap.size))∧w.alloc (.map (mI 12) 12)=j:=by
 have o:=@run_makeMap prog;have i0:(Instr.mapUpdate 297 (.map (some w.heap.size)) (.int .u8 1) (.agg #[.int .i64 0,.bool true,.bool false,.bool false])).run prog (w.alloc (.map #[] 0))=.ok () (w.alloc (.map (mI 1) 1)):=by rw[fI 0 1 _ rfl];exact dC _ _ _ _ (by rfl) w
 have J:(Instr.mapUpdate 297 (.map (some w.heap.size)) (.int .u8 2) (.agg #[.int .i64 2,.bool true,.bool false,.bool false])).run prog (w.alloc (.map (mI 1) 1))=.ok () (w.alloc (.map (mI 2) 2)):=by rw[fI 1 2 _ rfl];exact dC _ _ _ _ (by rfl) w
 have i2:(Instr.mapUpdate 297 (.map (some w.heap.size)) (.int .u8 4) (.agg #[.int .i64 1,.bool true,.bool true,.bool false])).run prog (w.alloc (.map (mI 2) 2))=.ok () (w.alloc (.map (mI 3) 3)):=by rw[fI 2 4 _ rfl];exact dC _ _ _ _ (by rfl) w
 have i3:(Instr.mapUpdate 297 (.map (some w.heap.size)) (.int .u8 5) (.agg #[.int .i64 1,.bool true,.bool true,.bool false])).run prog (w.alloc (.map (mI 3) 3))=.ok () (w.alloc (.map (mI 4) 4)):=by rw[fI 3 5 _ rfl];exact dC _ _ _ _ (by rfl) w
 have i4:(Instr.mapUpdate 297 (.map (some w.heap.size)) (.int .u8 6) (.agg #[.int .i64 2,.bool false,.bool true,.bool false])).run prog (w.alloc (.map (mI 4) 4))=.ok () (w.alloc (.map (mI 5) 5)):=by rw[fI 4 6 _ rfl];exact dC _ _ _ _ (by rfl) w
 have i5:(Instr.mapUpdate 297 (.map (some w.heap.size)) (.int .u8 7) (.agg #[.int .i64 (-1),.bool true,.bool true,.bool false])).run prog (w.alloc (.map (mI 5) 5))=.ok () (w.alloc (.map (mI 6) 6)):=by rw[fI 5 7 _ rfl];exact dC _ _ _ _ (by rfl) w
 have R:(Instr.mapUpdate 297 (.map (some w.heap.size)) (.int .u8 8) (.agg #[.int .i64 0,.bool true,.bool true,.bool false])).run prog (w.alloc (.map (mI 6) 6))=.ok () (w.alloc (.map (mI 7) 7)):=by rw[fI 6 8 _ rfl];exact dC _ _ _ _ (by rfl) w
 have Y:(Instr.mapUpdate 297 (.map (some w.heap.size)) (.int .u8 9) (.agg #[.int .i64 1,.bool false,.bool true,.bool false])).run prog (w.alloc (.map (mI 7) 7))=.ok () (w.alloc (.map (mI 8) 8)):=by rw[fI 7 9 _ rfl];exact dC _ _ _ _ (by rfl) w
 have i8:(Instr.mapUpdate 297 (.map (some w.heap.size)) (.int .u8 10) (.agg #[.int .i64 1,.bool true,.bool true,.bool false])).run prog (w.alloc (.map (mI 8) 8))=.ok () (w.alloc (.map (mI 9) 9)):=by rw[fI 8 10 _ rfl];exact dC _ _ _ _ (by rfl) w
 have i9:(Instr.mapUpdate 297 (.map (some w.heap.size)) (.int .u8 11) (.agg #[.int .i64 0,.bool false,.bool true,.bool false])).run prog (w.alloc (.map (mI 9) 9))=.ok () (w.alloc (.map (mI 10) 10)):=by rw[fI 9 11 _ rfl];exact dC _ _ _ _ (by rfl) w
 have C:(Instr.mapUpdate 297 (.map (some w.heap.size)) (.int .u8 12) (.agg #[.int .i64 1,.bool false,.bool true,.bool true])).run prog (w.alloc (.map (mI 10) 10))=.ok () (w.alloc (.map (mI 11) 11)):=by rw[fI 10 12 _ rfl];exact dC _ _ _ _ (by rfl) w
 have I:(Instr.mapUpdate 297 (.map (some w.heap.size)) (.int .u8 13) (.agg #[.int .i64 1,.bool false,.bool false,.bool false])).run prog (w.alloc (.map (mI 11) 11))=.ok () (w.alloc (.map (mI 12) 12)):=by rw[fI 11 13 _ rfl];exact dC _ _ _ _ (by rfl) w
 go_enter func232,ntmps232;go_wp2;go_ret;exact⟨rfl,rfl⟩
theorem LG (k:Nat)(o:k<256):Instr.findNow (.int .u8) (.int .u8 k) (mI 12).toList 0=some (match cJ k with|some s=>some ((MC.findIdx fun e=>e.1==k),Ig s)|none=>none):=by
 have:∀k:Fin 256,Instr.findNow (.int .u8) (.int .u8 (k.1:Nat)) (mI 12).toList 0=some (match cJ k.1 with|some s=>some ((MC.findIdx fun e=>e.1==k.1),Ig s)|none=>none):=by(
 intro k;by_cases h:k.1<14
 ·obtain⟨k,o⟩:=k
  simp only at h;rcases k with _|_|_|_|_|_|_|_|_|_|_|_|_|_|k;all_goals first|rfl|(exfalso;omega)
 have C:cJ k.1=none:=by unfold cJ;split<;>first|omega|rfl
 rw[C];have j:∀m:Int,m<14→((k.1:Int)==m)=false:=fun m hm=>by rw[bE];omega
 simp[mI,MC,Instr.findNow,Instr.sameNow,j])
 exact this ⟨k,o⟩
theorem LH (w:World):(zeroValue 295).run prog w=.ok (Ig ⟨0,false,false,false⟩) w:=by kernel_rfl
theorem qG (b:Nat)(k:Nat)(I:k<256)(w:World)(o:w.heap[b]? =some (.map (mI 12) 12)):
 (Instr.lookup 297 (.map (some b)) (.int .u8 k) true).run prog w=.ok (.tuple #[Ig ((cJ k).getD ⟨0,false,false,false⟩),.bool (cJ k).isSome]) w:=by
 have j:=LG k I;have J:=LH w;cases C:cJ k with
 |some s=>rw[C] at j;simp[Instr.lookup,run_underlying underlying297,MapKept.run_getObj_map o,MapKept.run_checkKey underlying5 (show MapKept.IsKey (.int .u8) (.int .u8 k) from rfl),MapKept.run_findKey underlying5 j,Result.andThen]
 |none=>rw[C] at j;simp[Instr.lookup,run_underlying underlying297,MapKept.run_getObj_map o,MapKept.run_checkKey underlying5 (show MapKept.IsKey (.int .u8) (.int .u8 k) from rfl),MapKept.run_findKey underlying5 j,Result.andThen,J]

def lm (n k:Nat)(cs j:Array Value):Prop:=j.size=cs.size∧∀m,m<n→j[m]? =if m<k∨n≤m+k then cs[n-1-m]? else cs[m]?
theorem lm.step {n k:Nat}{cs j:Array Value}{x y:Value}(h:lm n k cs j)(hk:k+k+1<n)(hn:n≤cs.size)(Y:j[n-1-k]? =some x)(hy:j[k]? =some y):
 lm n (k+1) cs ((j.setIfInBounds k x).setIfInBounds (n-1-k) y):=by
 refine⟨by simp[h.1],fun m hm=>?_⟩;have o:=h.2 (n-1-k) (by omega);rw[ae (by omega),Y] at o;have C:=h.2 k (by omega);rw[ae (by omega),hy] at C;rw[Array.getElem?_setIfInBounds,Array.getElem?_setIfInBounds];simp only[Array.size_setIfInBounds,h.1];by_cases I:n-1-k=m
 ·rw[ap I,ap (by omega),ap (by omega),C]
  congr 1;omega
 rw[ae I];by_cases J:k=m
 ·rw[ap J,ap (by omega),ap (by omega),o]
  congr 1;omega
 rw[ae J,h.2 m hm];by_cases R:m<k∨n≤m+k;·rw[ap R,ap (by omega)]
 rw[ae R,ae (by omega)]
theorem lm.mid {n k:Nat}{cs j:Array Value}(h:lm n k cs j){m:Nat}(o:k≤m)(C:m+k<n):j[m]? =cs[m]?:=by rw[h.2 m (by omega),ae (by omega)]
theorem lm.full {n k:Nat}{cs j:Array Value}(h:lm n k cs j)(o:n≤k+k+1)(m:Nat)(hm:m<n):j[m]? =cs[n-1-m]?:=by
 rw[h.2 m hm];split;·rfl
 congr 1;omega
theorem xj (g n c:Nat)(t:TypeId)(cs:Array Value)(w:World)(hb:al w g t cs)(hn:n≤cs.size)(h1:1≤n)(h2:n≤4096)(_:n≤c)(a1:∀m,m<n→∃x:Int,cs[m]? =some (.int .u8 x)):
 Calls prog 214 #[.slice (some ⟨g,0,none⟩) n c] w fun e w'=>e=.returned (.tuple #[])∧aa (fun b=>b≠g) w w'∧∃I,al w' g t I∧∀m,m<n→I[m]? =cs[n-1-m]?:=by
 have HB:=oH hb;have HS:=oH a1;clear hb a1;have hl:n≤9223372036854775807:=by omega
 go_enter func214,ntmps214;go_wp2;go_loopg [2,3] n (fun gg i j wr=>∃(k:Nat) (I:Array Value),k≤n∧gg=n-k∧i=.int .i64 k∧j=.int .i64 ((n:Int)-1-k)∧aa (fun b=>b≠g) w wr∧al wr g t I∧lm n k cs I);·exact⟨0,cs,by omega,by omega,rfl,by go_num,kR,HB.out,rfl,fun m hm=>by rw[ae (by omega)]⟩
 obtain⟨k,I,hk,rfl,rfl,rfl,C,o,J⟩:=hrel;by_cases a6:k+k+1<n;·(
 have a7:I.size=cs.size:=J.1;obtain⟨x1,R⟩:=HS.out (n-1-k) (by omega);obtain⟨x2,Y⟩:=HS.out k (by omega);rw[←J.mid (by omega) (by omega)] at R;rw[←J.mid (by omega) (by omega)] at Y;have e:((n:Int)-1-k)=((n-1-k:Nat):Int):=by omega
 obtain⟨j,hj⟩:=eQ (n-1-k);rw[e,←hj];rw[←hj] at R;have c1:=o.cell j;have c2:=o.cell k;have f1:=o.free j;have f2:=o.free k;rw[R] at c1;rw[Y] at c2;have a8:k<j:=by omega
 have b0:j<n:=by omega
 have HT:=J6 o J R Y hj C;clear o J R Y C hj e;go_wp2_with fail
 go_region
 go_wp2;go_roundg (n-(k+1))
 ·obtain⟨o,J,R,Y,hj,C⟩:=HT.out;subst hj;refine⟨k+1,(I.setIfInBounds k (.int .u8 x1)).setIfInBounds (n-1-k) (.int .u8 x2),by omega,rfl,by go_num,by go_num,?_,?_,J.step a6 hn R Y⟩;·exact((C.setCell (.inl fun h=>h rfl) _).setCell (.inl fun h=>h rfl) _).drew
  exact((o.set k _).set (n-1-k) _).drew
 omega)
 go_wp2
 go_end0
 exact⟨rfl,C,I,o,fun m hm=>J.full (by omega) m hm⟩
theorem Mq:(prog.info? 5).map (fun i=>(i.zero,i.size,i.bytes))=some (some (.int .u8 0),1,1):=by kernel_rfl
theorem pu (a b:List UInt8):(⟨a.toArray⟩:ByteArray)++⟨b.toArray⟩=⟨(a++b).toArray⟩:=by apply ByteArray.ext;simp
def eX (l:List UInt8):List Value:=l.map fun x=>Value.int .u8 (x.toNat:Int)
def vQ (f u:Nat)(j:List UInt8):List UInt8:=if j≠[]∧u=0 then [] else Aw f u
theorem tE {f u:Nat}{o:List UInt8}(h:u≠0∨o=[]):vQ (f+1) u o=UInt8.ofNat (48+u%10)::vQ f (u/10) (o++[UInt8.ofNat (48+u%10)]):=by
 unfold vQ;rw[ae (by rintro⟨C,I⟩;rcases h with h|h;exact h I;exact C h),Aw];by_cases j:u/10=0;·rw[ap j,ap ⟨by simp,j⟩]
 rw[ae j,ae fun h=>j h.2]
theorem Hj (n:Int)(hn:aV n)(w:World):Calls prog 157 #[.int .i64 n] w fun e w'=>e=.returned (.string ⟨(iK n).toArray⟩)∧aa All w w':=by
 obtain⟨iB,IB⟩:=iH Mq;have Y:=rZ hn;unfold aV at hn;go_enter func157,ntmps157;go_upto_if 9 with fail;go_cut [3,4] (fun s3 s4 wx=>s3=.int .u64 (n.natAbs:Int)∧s4=.string ⟨(if n<0 then [45] else []:List UInt8).toArray⟩∧w=wx)
 case first=>(
 by_cases h:n<0
 ·have d1:decide (n<0)=true:=by simpa using h
  obtain⟨m,hm⟩:=eR (IntKind.u64.wrap n);have e2:IntKind.u64.wrap (-m)=(n.natAbs:Int):=by rw[←hm];simp only[IntKind.wrap,IntKind.signed,IntKind.bits];simp;omega
  have HA:=oH (show(n.natAbs:Int)=n.natAbs from rfl);generalize (n.natAbs:Int)=k at*;clear Y hn;go_wp2_with fail;go_meet;exact⟨rfl,by rw[ap h],rfl⟩
 have d1:decide (n<0)=false:=by simpa using h
 have e2:IntKind.u64.wrap n=(n.natAbs:Int):=by simp only[IntKind.wrap,IntKind.signed,IntKind.bits];simp;omega
 clear Y;go_wp2_with fail;go_meet;exact⟨rfl,by rw[ae (by omega)],rfl⟩)
 obtain⟨rfl,rfl,rfl⟩:=hcut;obtain⟨sg,a6⟩:∃sg:List UInt8,(if n<0 then [45] else [])=sg:=⟨_,rfl⟩;rw[a6];have c5:sg.length≤1:=by rw[←a6];split<;>simp
 have HG:=oH a6;clear a6;go_wp2_with fail;go_loopg [3,5] 21 (fun g s3 s5 wr=>∃(f u:Nat) (o:List UInt8),g=f+1∧s3=.int .u64 u∧f+o.length=20∧u<10^f∧aa All w wr∧wr.ownsRow w.heap.size 5 1 s5 o.length (eX o)∧o++vQ f u o=Aw 20 n.natAbs);·exact⟨20,n.natAbs,[],by omega,rfl,rfl,Y,kR,⟨rfl,.inl ⟨rfl,rfl⟩⟩,by rw[vQ,ae (fun h=>h.1 rfl)];rfl⟩
 obtain⟨f,u,o,rfl,rfl,hf,hu,hk,I,a1⟩:=hrel;obtain⟨A,c,rfl⟩:=aU I;by_cases hc:u≠0∨o=[];·(
 obtain⟨f,rfl⟩:∃f',f=f'+1:=⟨f-1,by
  rcases Nat.eq_zero_or_pos f with h|h
  ·subst h;rcases hc with hc|hc;·simp at hu;omega
   subst hc;simp at hf
  omega⟩
 have c6:u<10^20:=Nat.lt_of_lt_of_le hu (Nat.pow_le_pow_right (by omega) (by omega));have HD:=oH a1;have HC:=oH hc;have HK:=oH hk;have hB:=hk.size;have C:(wr.alloc (.cells #[.int .u8 (48+(u:Int)%10)] 5)).ownsRow w.heap.size 5 1 (.slice A o.length c) o.length (eX o):=be I ((aa.refl All wr).alloc _) (fun _ _=>trivial);clear a1 hk;by_cases a7:u=0;·(
 have b3:o=[]:=hc.resolve_left (fun h=>h a7);clear hc;subst a7;subst b3;have C:(wr.alloc (.cells #[.int .u8 48] 5)).ownsRow w.heap.size 5 1 (.slice A 0 c) 0 (eX []):=C;go_wp2_with (
  at_builtin;refine aR _ rfl (.tmp 19) (.tmp 24) 272 rfl w.heap.size 5 iB _ 1 1 underlying272 IB.1 IB.2.1 IB.2.2.1 IB.2.2.2 rfl (by decide) _ _ _ rfl C (some ⟨wr.heap.size,0,none⟩) 1 1 [.int .u8 (48)] rfl rfl ?_ ?_ (by unfold maxLen;omega) (by omega) (by simp;omega) ?_;·intro _;exact⟨_,_,rfl,fun j u hu=>by rw[cN,al.cell (al.new _ _ _)];simpa using hu⟩
  ·intro u hu
   rw[cx.1 hu];rfl
  intro v2 w2 J b0 b4)
 go_roundg (f+1);·(
 have hp:=Nat.pow_succ 10 f;refine⟨f,0/10,[]++[UInt8.ofNat (48+0%10)],rfl,by go_num,by simp at hf⊢;omega,?_,(HK.out.alloc _).grown b0 fun g hg=>.inr (aD I hg).1,?_,?_⟩
 ·generalize 10^f=p at*
  omega
 ·have e:eX ([]++[UInt8.ofNat (48+0%10)])=eX []++[.int .u8 (48)]:=by unfold eX;rw[ic];simp only[List.map_cons,List.map_nil,nL];congr 3
  rw[e,iQ];exact J
 rw[jM,←HD.out,tE (.inr rfl)];rfl)
 omega)
 have hp:0<u:=by omega
 clear hc;go_wp2_with (
  at_builtin;refine aR _ rfl (.tmp 19) (.tmp 24) 272 rfl w.heap.size 5 iB _ 1 1 underlying272 IB.1 IB.2.1 IB.2.2.1 IB.2.2.2 rfl (by decide) _ _ _ rfl C (some ⟨wr.heap.size,0,none⟩) 1 1 [.int .u8 (48+(u:Int)%10)] rfl rfl ?_ ?_ (by unfold maxLen;omega) (by omega) (by simp;omega) ?_;·intro _;exact⟨_,_,rfl,fun j u hu=>by rw[cN,al.cell (al.new _ _ _)];simpa using hu⟩
  ·intro u hu
   rw[cx.1 hu];rfl
  intro v2 w2 J b0 b4)
 go_roundg (f+1);·(
 have hp:=Nat.pow_succ 10 f;refine⟨f,u/10,o++[UInt8.ofNat (48+u%10)],rfl,by go_num,by simp;omega,?_,(HK.out.alloc _).grown b0 fun g hg=>.inr (aD I hg).1,?_,?_⟩
 ·generalize 10^f=p at*
  omega
 ·have e:eX (o++[UInt8.ofNat (48+u%10)])=eX o++[.int .u8 (48+(u:Int)%10)]:=by unfold eX;rw[ic];simp only[List.map_cons,List.map_nil,nL];congr 3
  rw[e,iQ];exact J
 rw[jM,←HD.out,tE HC.out];rfl)
 omega)
 have a7:u=0:=Classical.byContradiction fun h=>hc (.inl h);have b1:o≠[]:=fun h=>hc (.inr h);subst a7;have c0:o.length≠0:=fun h=>b1 (oD h);have t1:((o.length:Int)==0)=false:=by rw[bE];omega
 have c8:0<o.length:=by omega
 rw[vQ,ap ⟨b1,rfl⟩,List.append_nil] at a1;obtain⟨_,⟨h,_⟩|⟨g,cap,cur,hv,hg,hh,b5,c7,c9,c1⟩⟩:=I;·injection h with _ h;omega
 injection hv with c2 d7 c3;subst c2;subst c3;have R:∀m,m<o.length→cur[m]? =some (.int .u8 ((o.getD m 0).toNat:Int)):=by(
 intro m hm;have h1:(cur.toList.take (o.length*1))[m]? =(eX o)[m]?:=by rw[c1]
 rw[rY (by omega)] at h1;rw[←Array.getElem?_toList,h1];simp[eX,hm])
 have b6:o.length≤cur.size:=by omega
 have a8:=xj g o.length c 5 cur wr hh b6 (by omega) (by omega) b5 (fun m hm=>⟨_,R m hm⟩);have HR:=J4 a8 hk a1 R;clear a8 hk a1 R hh hc b1 c0;go_wp2_with fail;refine HR.1.mono ?_;rintro e w2 ⟨rfl,b7,d8,b8,b9⟩;have b2:=run_convert_bytes_back (P:=prog) w2 272 9 5 ⟨g,0,none⟩ c o.reverse underlying272 underlying5 underlying9 (fun j hj=>by
  rw[List.length_reverse] at hj;have:(⟨g,0,none⟩:Addr).add j=⟨g,j,none⟩:=by unfold Addr.add;split<;>simp_all
  rw[this,b8.cell,b9 j hj,HR.2.2.2 (o.length-1-j) (by omega)];rw[List.getElem_reverse];rw[iG,lG (by omega),Option.getD_some])
 rw[List.length_reverse] at b2;have H2:=oH b7;clear b7 b8 b9;go_wp2_with fail;go_ret;have c4:aa All w w2:=by have h1:=H2.out;have h0:=HR.2.1;refine⟨h1.os.trans h0.os,h1.output.trans h0.output,fR h0.size h1.size,fun b hb _=>?_⟩;rw[h1.block b (by have:=h0.size;omega) (fun e=>by subst e;omega)];exact h0.block b hb trivial
 refine⟨?_,c4⟩;have e:iK n=sg++o.reverse:=by unfold iK kK;rw[HG.out,HR.2.2.1]
 rw[e,←pu];rfl
theorem ez (c:UInt8)(n:Int)(o:aV n)(w:World):Calls prog 106 #[.string ⟨#[c]⟩,.int .i64 n] w fun e C=>e=.returned (.string (aL c n))∧aa All w C:=by have I:=fun w=>Hj n o w;have R:=vV n;have J:=oH (show(⟨[c].toArray⟩:ByteArray)++⟨(iK n).toArray⟩=aL c n from pu _ _);generalize iK n=l at*;go_enter func106,ntmps106;go_wp2_with (go_at_call 157;refine(I _).mono ?_;rintro e Y ⟨rfl,j⟩;have H1:=oH j;clear j);go_ret;exact⟨by rw[←J.out];rfl,H1.out⟩
section
attribute [local go_sem] LK LL ms wL pD
theorem AX (S:Nat→Prop)(v:Value)(p:aH)(s:ByteArray)(w:World)(hv:dJ S w v p):
 Calls prog 93 #[v,.string s] w fun e w'=>e=.returned (.int .i64 (eZ p s))∧aa All w w':=by
 obtain⟨a,b,c,d,rfl,h1,_⟩:=hv;obtain⟨A,cap,rfl,g1,g2,g3,h⟩:=h1;unfold maxLen at g2;have o:=(aa.refl All w).alloc (.cells #[.slice A p.MZ.length cap,b,c,d,.int .i64 p.Nc] 26);have H:=J2 h o;clear h o;unfold eZ;generalize p.MZ=l at*;go_enter func93,ntmps93;go_wp2;go_loopg [5] l.length (fun g i wr=>∃k:Nat,k≤l.length∧g=l.length-k∧i=.int .i64 k∧wr=w.alloc (.cells #[.slice A l.length cap,b,c,d,.int .i64 p.Nc] 26)∧∀y∈l.take k,(fun x:ByteArray=>x.toList==s.toList) y=false);·exact⟨0,by omega,by omega,rfl,rfl,by simp⟩
 obtain⟨k,o,rfl,rfl,rfl,j⟩:=hrel;have C:=oH j;clear j;by_cases I:k<l.length
 ·obtain⟨x,J⟩:=eG I;obtain⟨bb,off,cc,rfl,hs,Y,rfl⟩:=H.1 k x J;have hd:=H.2.cell (p:=⟨bb,off+k,none⟩) trivial Y;have HX:=oH J;clear Y J;cases hq:x.toList==s.toList with
  |true=>have hr:=lL (p:=fun x:ByteArray=>x.toList==s.toList) HX.out hq C.out;have R:=oH hr;clear hr;go_wp2;go_ret;exact⟨by rw[R.out];rfl,H.2⟩
  |false=>
   have R:=oH (pP (p:=fun x:ByteArray=>x.toList==s.toList) HX.out hq C.out);go_wp2;go_roundg (l.length-(k+1));·exact⟨k+1,by omega,rfl,by go_num,rfl,R.out⟩
   omega
 obtain rfl:k=l.length:=by omega
 go_wp2;go_ret;exact⟨by rw[lM (by have:=C.out;rwa [dZ] at this)];rfl,H.2⟩
theorem xg (S:Nat→Prop)(v:Value)(l:List (ByteArray×Int))(s:ByteArray)(w:World)(hv:kh S w v l):
 Calls prog 147 #[v,.string s] w fun e w'=>e=.returned (.int .i64 (fD l s))∧w=w':=by
 obtain⟨A,cap,rfl,g1,g2,g3,h⟩:=hv;unfold maxLen at g2;have H:=oH h;clear h;unfold fD;go_enter func147,ntmps147;go_wp2;go_loopg [5] l.length (fun g i wr=>∃k:Nat,k≤l.length∧g=l.length-k∧i=.int .i64 k∧w=wr∧∀y∈l.take k,(fun x:ByteArray×Int=>x.1.toList==s.toList) y=false);·exact⟨0,by omega,by omega,rfl,rfl,by simp⟩
 obtain⟨k,hk,rfl,rfl,rfl,j⟩:=hrel;have o:=oH j;clear j;by_cases C:k<l.length
 ·obtain⟨x,I⟩:=eG C;obtain⟨bb,off,cc,rfl,hs,_,R,rfl,_⟩:=H.out k x I;have hd:=R 0 _ rfl;have Y:=oH I;clear R I;obtain⟨x1,x2⟩:=x;simp only[dj] at hd;cases hq:x1.toList==s.toList with
  |true=>have hr:=lL (p:=fun x:ByteArray×Int=>x.1.toList==s.toList) Y.out hq o.out;have J:=oH hr;clear hr;go_wp2;go_ret;exact⟨by rw[J.out];rfl,rfl⟩
  |false=>
   have J:=oH (pP (p:=fun x:ByteArray×Int=>x.1.toList==s.toList) Y.out hq o.out);go_wp2;go_roundg (l.length-(k+1));·exact⟨k+1,by omega,rfl,by go_num,rfl,J.out⟩
   omega
 obtain rfl:k=l.length:=by omega
 go_wp2;go_ret;exact⟨by rw[lM (by have:=o.out;rwa [dZ] at this)];rfl,rfl⟩
theorem GV (x:BitVec 64)(i:Nat)(hi:i<64)(w:World):Calls prog 236 #[U x,.int .i64 i] w fun e R=>e=.returned (.bool (x.getLsbD i))∧w=R:=by
 have Y:=oH (EX x i);have o:∀k:Nat,(x>>>k)>>>1=x>>>(k+1):=fun k=>by rw[←BitVec.shiftRight_add]
 have HS:=oH o;have C:x>>>0=x:=by simp
 have H0:=oH C;clear o C;go_enter func236,ntmps236;go_wp2;go_loopg [0,5] i (fun g m j wr=>∃k:Nat,k≤i∧g=i-k∧j=.int .i64 k∧(∃y,y=x>>>k∧m=U y)∧w=wr);·exact⟨0,by omega,by omega,rfl,⟨x,H0.out.symm,rfl⟩,rfl⟩
 obtain⟨k,hk,rfl,rfl,⟨y,I,rfl⟩,rfl⟩:=hrel;have J:=oH I;clear I;by_cases a1:k<i
 ·go_wp2
  go_roundg (i-(k+1));·exact⟨k+1,by omega,rfl,by go_num,⟨_,by rw[J.out,HS.out],rfl⟩,rfl⟩
  omega
 obtain rfl:k=i:=by omega
 go_wp2;go_ret;exact⟨by rw[←Y.out,←J.out];rfl,rfl⟩
end
section
attribute [local go_sem] lh qb xr ju nA nE nB nC Ku ms rq nD wL pD
attribute [local go_sem] pm lU jt mU List.getElem?_toArray List.getElem?_cons_zero
theorem dl (S:Nat→Prop)(A:Option Addr)(cap:Nat)(up:List (BitVec 64))(i k:Nat)(c:Bool)(w:World)(C:nZ S w (.slice A up.length cap) up)(hi:i<up.length)(R:k<64)(_:up.length≤64)(I:(aJ up i).getLsbD k=c):
 Calls prog 202 #[.slice A up.length cap,.int .i64 i,.int .i64 k] w fun e J=>e=.returned (.bool c)∧w=J:=by
 obtain⟨b,o,rfl,_,hc⟩:=lx C hi;have j:=fun w=>GV (aJ up i) k R w;rw[I] at j;have Y:=oH j;clear j C I;go_enter func202,ntmps202;go_wp2_with (go_at_call 236;refine(Y.out _).mono ?_;rintro e J ⟨rfl,rfl⟩);go_ret;exact⟨rfl,rfl⟩
theorem Kr {x y:BitVec 64}:(x|||y=y)↔x&&& ~~~y=0#64:=by
 rw[pZ];constructor
 ·intro h k _ j
  have:=congrArg (fun z=>z.getLsbD k) h;simp only[BitVec.getLsbD_or,j,Bool.true_or] at this;exact this.symm
 intro h;apply BitVec.eq_of_getLsbD_eq;intro i hi;rw[BitVec.getLsbD_or];cases j:x.getLsbD i with
 |false=>rfl
 |true=>rw[h i hi j];rfl
theorem AY (S:Nat→Prop)(v:Value)(up:List (BitVec 64))(w:World)(hv:nZ S w v up):
 Calls prog 142 #[v] w fun e w'=>e=.returned (.bool (pB (dI up)))∧aa All w w':=by
 have b7:=hv;obtain⟨A,cap,rfl,h1,h2,_,_⟩:=hv;unfold maxLen at h2;have HU:=oH fun wn (C:aa All w wn)=>dU.keep (S:=S) C.all b7;clear b7;go_enter func142,ntmps142;by_cases hn:up.length<1∨64<up.length
 ·have a7:=oH (au (P:=dI up) fun h=>by have:=h.1;have:=h.2.1;omega);have hr:decide ((up.length:Int)<1)=true∨(decide ((up.length:Int)<1)=false∧decide ((64:Int)<up.length)=true):=by simp only[qal,decide_eq_false_iff_not];omega
  clear hn;rcases hr with hr|⟨hr,c2⟩
  all_goals
   go_wp2;go_ret;exact⟨by rw[a7.out];rfl,kR⟩
 have hr:decide ((up.length:Int)<1)=false:=by simp;omega
 have c2:decide ((64:Int)<up.length)=false:=by simp;omega
 have b8:up.length≤64:=by omega
 have b9:1≤up.length:=by omega
 clear hn;go_wp2;go_loopg [3] up.length (fun g i wr=>∃i0:Nat,i0≤up.length∧g=up.length-i0∧i=.int .i64 i0∧aa All w wr∧∀x,x<i0→uC up x);·exact⟨0,by omega,by omega,rfl,kR,fun x hx=>by omega⟩
 obtain⟨i,hi,rfl,rfl,C,b1⟩:=hrel;have HA:=J2 C b1;clear C b1;by_cases R:i<up.length;·(
 have c0:=fun wn (C:aa All w wn) (a k:Nat) (c:Bool) (ha:a<up.length) (c3:k<64) (hb:(aJ up a).getLsbD k=c)=>dl S A cap up a k c wn (HU.out wn C) ha c3 b8 hb;have a8:=oH c0;clear c0;cases Y:(aJ up i).getLsbD i with
 |false=>have a7:=oH (au (P:=dI up) fun h=>by have:=(fL.1 h).2.2 i R;rw[uC,Y] at this;exact oG this.1);go_wp2_with (go_at_call 202;refine(a8.out _ HA.1 i i _ R (by omega) Y).mono ?_;rintro e w' ⟨rfl,rfl⟩);go_ret;exact⟨by rw[a7.out];rfl,HA.1⟩
 |true=>
  go_wp2_with (go_at_call 202;refine(a8.out _ HA.1 i i _ R (by omega) Y).mono ?_;rintro e w' ⟨rfl,rfl⟩);have HS:=oH Y;clear Y;go_loopg [4] 64 (fun g j wr=>∃k:Nat,k≤64∧g=64-k∧j=.int .i64 k∧aa All w wr∧∀x,x<k→(aJ up i).getLsbD x=true→x<up.length∧qN up i x);·exact⟨0,by omega,by omega,rfl,HA.1,fun x hx=>by omega⟩
  obtain⟨k,C,rfl,rfl,c1,b1⟩:=hrel;have HB:=J2 c1 b1;clear c1 b1;by_cases J:k<64;·(
 cases I:(aJ up i).getLsbD k with
 |false=>
  have a1:Hid ((aJ up i).getLsbD k=true→k<up.length∧qN up i k):=oH fun h=>by rw[I] at h;cases h
  go_wp2_with (go_at_call 202;refine(a8.out _ HB.1 i k _ R J I).mono ?_;rintro e w' ⟨rfl,rfl⟩);go_roundg (64-(k+1))
  ·refine⟨k+1,by omega,rfl,by go_num,HB.1,fun x hx hb=>?_⟩;by_cases e:x=k;·subst e;exact a1.out hb
   exact HB.2 x (by omega) hb
  omega
 |true=>
  by_cases b4:up.length≤k;·(
 have hd:decide ((up.length:Int)≤(k:Int))=true:=by simp;omega
 have a7:=oH (au (P:=dI up) fun h=>by have:=((fL.1 h).2.2 i R).2.1 k J I;omega);go_wp2_with (go_at_call 202;refine(a8.out _ HB.1 i k _ R J I).mono ?_;rintro e w' ⟨rfl,rfl⟩);refine eK (aa All wr) [] (fun _ _ _=>True) (fun _=>none) (by kernel_rfl) (by kernel_rfl) (by kernel_rfl) (by kernel_rfl) kR.drew ?_;iterate 5 (refine OR (fun wn C hp=>by(go_simp;with_reducible rfl)) ?_)
 iterate 9 (refine jf (by rfl) (by intro d hd;cases hd;decide) ?_;simp only[PS])
 iterate 2 (refine OR (fun wn C hp=>by(go_simp;with_reducible rfl)) ?_)
 iterate 14 (refine jf (by rfl) (by intro d hd;cases hd;decide) ?_;simp only[PS])
 iterate 1 (refine OR (fun wn C hp=>by(go_simp;with_reducible rfl)) ?_)
 refine dQ fun wn C _=>?_;have HN:=oH (HB.1.trans C);clear C;go_wp2;go_ret;exact⟨by rw[a7.out];rfl,HN.out⟩)
  have hd:decide ((up.length:Int)≤(k:Int))=false:=by simp;omega
  have b5:k<up.length:=by omega
  have b2:∀wn,aa All wr wn→∃b o,A=some ⟨b,o,none⟩∧wn.cell? ⟨b,o+i,none⟩=some (U (aJ up i))∧wn.cell? ⟨b,o+k,none⟩=some (U (aJ up k)):=fun wn b4=>by have hu:=HU.out wn (HB.1.trans b4);obtain⟨bb,o,e,_,hc⟩:=lx hu R;obtain⟨c6,o',e',_,c4⟩:=lx hu b5;rw[e] at e';cases e';exact⟨bb,o,e,hc,c4⟩
  obtain⟨bb,o,rfl,_⟩:=b2 wr kR;have b3:∀wn,aa All wr wn→wn.cell? ⟨bb,o+i,none⟩=some (U (aJ up i))∧wn.cell? ⟨bb,o+k,none⟩=some (U (aJ up k)):=fun wn b4=>by obtain⟨b',o',e,h3,h4⟩:=b2 wn b4;cases e;exact⟨h3,h4⟩
  have HC:=J2 b3 (fun wn (C:aa All wr wn) (c:Bool) (hb:(aJ up k).getLsbD i=c)=>a8.out wn (HB.1.trans C) k i c b5 (by omega) hb);clear b2 b3;by_cases b0:k=i;·(
 have c5:((k:Int) !=(i:Int))=false:=by simp[b0]
 have b6:(aJ up k|||aJ up i !=aJ up i)=false:=by rw[b0,BitVec.or_self];simp
 have a1:Hid (k<up.length∧qN up i k):=oH ⟨b5,fun h=>absurd b0 h,by rw[b0,pZ];exact fun _ _ h=>h⟩;clear b0;go_wp2_with (go_at_call 202;refine(a8.out _ HB.1 i k _ R J I).mono ?_;rintro e w' ⟨rfl,rfl⟩);refine eK (aa All wr) [] (fun _ _ _=>True) (fun _=>none) (by kernel_rfl) (by kernel_rfl) (by kernel_rfl) (by kernel_rfl) kR.drew ?_;iterate 9 (refine OR (fun wn C hp=>by(obtain⟨e1,e2⟩:=HC.1 wn C;go_simp;with_reducible rfl)) ?_)
 iterate 4 (refine jf (by rfl) (by intro d hd;cases hd;decide) ?_;simp only[PS])
 iterate 18 (refine OR (fun wn C hp=>by(obtain⟨e1,e2⟩:=HC.1 wn C;go_simp;with_reducible rfl)) ?_)
 refine dQ fun wn C _=>?_;have HN:=oH (HB.1.trans C);clear C;go_wp2;go_roundg (64-(k+1))
 ·refine⟨k+1,by omega,rfl,by go_num,HN.out,fun x hx hb=>?_⟩
  by_cases e:x=k;·subst e;exact a1.out
  exact HB.2 x (by omega) hb
 omega)
  have c5:((k:Int) !=(i:Int))=true:=by simp;omega
  cases a6:(aJ up k).getLsbD i with
  |true=>
   have a7:=oH (au (P:=dI up) fun h=>by have:=(((fL.1 h).2.2 i R).2.2 k J I).1 b0;rw[this] at a6;cases a6);clear b0;go_wp2_with (go_at_call 202;refine(a8.out _ HB.1 i k _ R J I).mono ?_;rintro e w' ⟨rfl,rfl⟩);refine eK (aa All wr) [] (fun _ _ _=>True) (fun k=>if k=12 then some (fun v=>v=.bool true) else none) (by kernel_rfl) (by kernel_rfl) (by kernel_rfl) (by kernel_rfl) kR.drew ?_;iterate 12 (refine OR (fun wn C hp=>by(obtain⟨e1,e2⟩:=HC.1 wn C;go_simp;with_reducible rfl)) ?_)
   refine gi (by rfl) (by rfl) (fun wn C hp=>?_) ?_;·skip;go_simp;simp only[kl];refine(HC.2 wn C _ a6).mono ?_;rintro e2 wq ⟨rfl,rfl⟩;exact⟨_,rfl,rfl,C,fun _ _ _ _=>trivial,fun _ _ _=>trivial⟩
   rintro v rfl;simp only[PS];iterate 3 (refine OR (fun wn C hp=>by(obtain⟨e1,e2⟩:=HC.1 wn C;go_simp;with_reducible rfl)) ?_)
   iterate 14 (refine jf (by rfl) (by intro d hd;cases hd;decide) ?_;simp only[PS])
   iterate 1 (refine OR (fun wn C hp=>by(obtain⟨e1,e2⟩:=HC.1 wn C;go_simp;with_reducible rfl)) ?_)
   refine dQ fun wn C _=>?_;have HN:=oH (HB.1.trans C);clear C;go_wp2;go_ret;exact⟨by rw[a7.out];rfl,HN.out⟩
  |false=>
   cases b6:(aJ up k|||aJ up i !=aJ up i) with
   |true=>
    have a7:=oH (au (P:=dI up) fun h=>by have:=(((fL.1 h).2.2 i R).2.2 k J I).2;rw[Kr.2 this] at b6;simp at b6);clear b0;go_wp2_with (go_at_call 202;refine(a8.out _ HB.1 i k _ R J I).mono ?_;rintro e w' ⟨rfl,rfl⟩);refine eK (aa All wr) [] (fun _ _ _=>True) (fun k=>if k=12 then some (fun v=>v=.bool false) else none) (by kernel_rfl) (by kernel_rfl) (by kernel_rfl) (by kernel_rfl) kR.drew ?_;iterate 12 (refine OR (fun wn C hp=>by(obtain⟨e1,e2⟩:=HC.1 wn C;go_simp;with_reducible rfl)) ?_)
    refine gi (by rfl) (by rfl) (fun wn C hp=>?_) ?_;·skip;go_simp;simp only[kl];refine(HC.2 wn C _ a6).mono ?_;rintro e2 wq ⟨rfl,rfl⟩;exact⟨_,rfl,rfl,C,fun _ _ _ _=>trivial,fun _ _ _=>trivial⟩
    rintro v rfl;simp only[PS];iterate 18 (refine OR (fun wn C hp=>by(obtain⟨e1,e2⟩:=HC.1 wn C;go_simp;with_reducible rfl)) ?_)
    refine dQ fun wn C _=>?_;have HN:=oH (HB.1.trans C);clear C;go_wp2;go_ret;exact⟨by rw[a7.out];rfl,HN.out⟩
   |false=>
    have a1:Hid (k<up.length∧qN up i k):=oH ⟨b5,fun _=>a6,Kr.1 (by simpa using b6)⟩;clear b0;go_wp2_with (go_at_call 202;refine(a8.out _ HB.1 i k _ R J I).mono ?_;rintro e w' ⟨rfl,rfl⟩);refine eK (aa All wr) [] (fun _ _ _=>True) (fun k=>if k=12 then some (fun v=>v=.bool false) else none) (by kernel_rfl) (by kernel_rfl) (by kernel_rfl) (by kernel_rfl) kR.drew ?_;iterate 12 (refine OR (fun wn C hp=>by(obtain⟨e1,e2⟩:=HC.1 wn C;go_simp;with_reducible rfl)) ?_)
    refine gi (by rfl) (by rfl) (fun wn C hp=>?_) ?_;·skip;go_simp;simp only[kl];refine(HC.2 wn C _ a6).mono ?_;rintro e2 wq ⟨rfl,rfl⟩;exact⟨_,rfl,rfl,C,fun _ _ _ _=>trivial,fun _ _ _=>trivial⟩
    rintro v rfl;simp only[PS];iterate 18 (refine OR (fun wn C hp=>by(obtain⟨e1,e2⟩:=HC.1 wn C;go_simp;with_reducible rfl)) ?_)
    refine dQ fun wn C _=>?_;have HN:=oH (HB.1.trans C);clear C;go_wp2;go_roundg (64-(k+1))
    ·refine⟨k+1,by omega,rfl,by go_num,HN.out,fun x hx hb=>?_⟩;by_cases e:x=k;·subst e;exact a1.out
     exact HB.2 x (by omega) hb
    omega)
  obtain rfl:k=64:=by omega
  have a1:Hid (uC up i):=oH ⟨HS.out,fun k C hb=>(HB.2 k C hb).1,fun k C hb=>(HB.2 k C hb).2⟩;go_wp2;go_roundg (up.length-(i+1))
  ·refine⟨i+1,by omega,rfl,by go_num,HB.1,fun x hx=>?_⟩;by_cases e:x=i;·subst e;exact a1.out
   exact HA.2 x (by omega)
  omega)
 obtain rfl:i=up.length:=by omega
 have HY:=oH (av (P:=dI up) (fL.2 ⟨b9,b8,HA.2⟩));go_wp2;go_ret;exact⟨by rw[HY.out];rfl,HA.1⟩
def ku (up:List (BitVec 64))(a b k:Nat):Bool:=((aJ up a).getLsbD k)&&((aJ up b).getLsbD k)
def fE (up:List (BitVec 64))(a b k m:Nat):Bool:=!((aJ up a).getLsbD m)||!((aJ up b).getLsbD m)||((aJ up k).getLsbD m)
theorem pJ (up:List (BitVec 64))(a b k:Nat):sM up a b k=(ku up a b k&&(List.range up.length).all (fE up a b k)):=rfl
theorem uD {n m:Nat}{p:Nat→Bool}(hm:m≤n)(h:(List.range m).all p=false):(List.range n).all p=false:=by
 cases C:(List.range n).all p with
 |false=>rfl
 |true=>exfalso;have:=nJ.1 C;have o:(List.range m).all p=true:=nJ.2 fun j I=>this j (by omega);rw[h] at o;cases o
theorem xJ (m:Nat)(p:Nat→Bool):(List.range (m+1)).all p=((List.range m).all p&&p m):=by rw[List.range_succ,List.all_append];simp
theorem DU (S:Nat→Prop)(v:Value)(up:List (BitVec 64))(a b:Nat)(w:World)(hv:nZ S w v up)(C:up.length≤64)(ha:a<up.length)(hb:b<up.length):
 Calls prog 143 #[v,.int .i64 a,.int .i64 b] w fun e Y=>e=.returned (.int .i64 (iY up a b))∧w=Y:=by
 have b0:=hv;obtain⟨A,cap,rfl,h1,h2,_,_⟩:=hv;unfold maxLen at h2;have HU:=oH b0;clear b0;go_enter func143,ntmps143;go_wp2;go_loopg [7] up.length (fun g i wr=>∃k:Nat,k≤up.length∧g=up.length-k∧i=.int .i64 k∧w=wr∧∀x,x<k→sM up a b x=false);·exact⟨0,by omega,by omega,rfl,rfl,fun x hx=>by omega⟩
 obtain⟨k,hk,rfl,rfl,rfl,a1⟩:=hrel;have HA:=oH a1;clear a1;by_cases b2:k<up.length;·(
 cases I:(aJ up a).getLsbD k with
 |false=>
  have HR:=oH (show ku up a b k=false by unfold ku;rw[I];rfl);have HF:=oH (show sM up a b k=false by rw[pJ,HR.out];rfl);go_wp2_with (go_at_call 202;refine(dl S _ _ up _ _ _ _ HU.out (by omega) (by omega) C (by assumption)).mono ?_;rintro e Y ⟨rfl,rfl⟩);clear I;go_loopg [8,9] up.length (fun g is j wr=>∃m:Nat,m≤up.length∧g=up.length-m∧j=.int .i64 m∧is=.bool false∧w=wr);·exact⟨0,by omega,by omega,rfl,rfl,rfl⟩
  obtain⟨m,hm,rfl,rfl,rfl,rfl⟩:=hrel;by_cases a6:m<up.length
  all_goals
   go_wp2;go_roundg (up.length-(k+1))
   ·refine⟨k+1,by omega,rfl,by go_num,rfl,fun x hx=>?_⟩;by_cases e:x=k;·subst e;exact HF.out
    exact HA.out x (by omega)
   omega
 |true=>
  cases a7:(aJ up b).getLsbD k with
  |false=>
   have HR:=oH (show ku up a b k=false by unfold ku;rw[I,a7];rfl);have HF:=oH (show sM up a b k=false by rw[pJ,HR.out];rfl);go_wp2_with (go_at_call 202;refine(dl S _ _ up _ _ _ _ HU.out (by omega) (by omega) C (by assumption)).mono ?_;rintro e Y ⟨rfl,rfl⟩);clear I;go_loopg [8,9] up.length (fun g is j wr=>∃m:Nat,m≤up.length∧g=up.length-m∧j=.int .i64 m∧is=.bool false∧w=wr);·exact⟨0,by omega,by omega,rfl,rfl,rfl⟩
   obtain⟨m,hm,rfl,rfl,rfl,rfl⟩:=hrel;by_cases a6:m<up.length
   all_goals
    go_wp2;go_roundg (up.length-(k+1))
    ·refine⟨k+1,by omega,rfl,by go_num,rfl,fun x hx=>?_⟩;by_cases e:x=k;·subst e;exact HF.out
     exact HA.out x (by omega)
    omega
  |true=>
   have HR:=oH (show ku up a b k=true by unfold ku;rw[I,a7];rfl);go_wp2_with (go_at_call 202;refine(dl S _ _ up _ _ _ _ HU.out (by omega) (by omega) C (by assumption)).mono ?_;rintro e Y ⟨rfl,rfl⟩);clear I a7;go_loopg [8,9] up.length (fun g is j wr=>∃m:Nat,m≤up.length∧g=up.length-m∧j=.int .i64 m∧is=.bool ((List.range m).all (fE up a b k))∧w=wr);·exact⟨0,by omega,by omega,rfl,rfl,rfl⟩
   obtain⟨m,hm,rfl,rfl,rfl,rfl⟩:=hrel;cases J:(List.range m).all (fE up a b k) with
   |false=>
    have HF:=oH (show sM up a b k=false by rw[pJ,uD hm J];simp);clear J;by_cases a6:m<up.length
    all_goals
     go_wp2;go_roundg (up.length-(k+1));·(
 refine⟨k+1,by omega,rfl,by go_num,rfl,fun x hx=>?_⟩;by_cases e:x=k;·subst e;exact HF.out
 exact HA.out x (by omega))
     omega
   |true=>
    by_cases a6:m<up.length;·(
 have o:=xJ m (fE up a b k);rw[J,Bool.true_and] at o;cases R:(aJ up a).getLsbD m with
 |false=>
  have HN:=oH (show(List.range (m+1)).all (fE up a b k)=true by rw[o,fE,R];rfl);clear o J;go_wp2_with (go_at_call 202;refine(dl S _ _ up _ _ _ _ HU.out (by omega) (by omega) C (by assumption)).mono ?_;rintro e Y ⟨rfl,rfl⟩);go_roundg (up.length-(m+1));·exact⟨m+1,by omega,rfl,by go_num,by rw[HN.out],rfl⟩
  omega
 |true=>
  cases a8:(aJ up b).getLsbD m with
  |false=>
   have HN:=oH (show(List.range (m+1)).all (fE up a b k)=true by rw[o,fE,R,a8];rfl);clear o J;go_wp2_with (go_at_call 202;refine(dl S _ _ up _ _ _ _ HU.out (by omega) (by omega) C (by assumption)).mono ?_;rintro e Y ⟨rfl,rfl⟩);go_roundg (up.length-(m+1));·exact⟨m+1,by omega,rfl,by go_num,by rw[HN.out],rfl⟩
   omega
  |true=>
   cases b1:(aJ up k).getLsbD m with
   |false=>
    have HN:=oH (show(List.range (m+1)).all (fE up a b k)=false by rw[o,fE,R,a8,b1];rfl);clear o J;go_wp2_with (go_at_call 202;refine(dl S _ _ up _ _ _ _ HU.out (by omega) (by omega) C (by assumption)).mono ?_;rintro e Y ⟨rfl,rfl⟩);go_roundg (up.length-(m+1));·exact⟨m+1,by omega,rfl,by go_num,by rw[HN.out],rfl⟩
    omega
   |true=>
    have HN:=oH (show(List.range (m+1)).all (fE up a b k)=true by rw[o,fE,R,a8,b1];rfl);clear o J;go_wp2_with (go_at_call 202;refine(dl S _ _ up _ _ _ _ HU.out (by omega) (by omega) C (by assumption)).mono ?_;rintro e Y ⟨rfl,rfl⟩);go_roundg (up.length-(m+1));·exact⟨m+1,by omega,rfl,by go_num,by rw[HN.out],rfl⟩
    omega)
    obtain rfl:m=up.length:=by omega
    have HV:=oH (show iY up a b=k from lI b2 (by rw[pJ,HR.out,J];rfl) HA.out);clear J;go_wp2;go_ret;exact⟨by rw[HV.out];rfl,rfl⟩)
 obtain rfl:k=up.length:=by omega
 have HV:=oH (show iY up a b= -1 from jW HA.out);go_wp2;go_ret;exact⟨by rw[HV.out];rfl,rfl⟩
def kv (up:List (BitVec 64))(a b k:Nat):Bool:=((aJ up k).getLsbD a)&&((aJ up k).getLsbD b)
def fF (up:List (BitVec 64))(a b k m:Nat):Bool:=!((aJ up m).getLsbD a)||!((aJ up m).getLsbD b)||((aJ up m).getLsbD k)
theorem pN (up:List (BitVec 64))(a b k:Nat):sV up a b k=(kv up a b k&&(List.range up.length).all (fF up a b k)):=rfl
theorem DW (S:Nat→Prop)(v:Value)(up:List (BitVec 64))(a b:Nat)(w:World)(hv:nZ S w v up)(C:up.length≤64)(ha:a<up.length)(hb:b<up.length):
 Calls prog 144 #[v,.int .i64 a,.int .i64 b] w fun e Y=>e=.returned (.int .i64 (iZ up a b))∧w=Y:=by
 have b0:=hv;obtain⟨A,cap,rfl,h1,h2,_,_⟩:=hv;unfold maxLen at h2;have HU:=oH b0;clear b0;go_enter func144,ntmps144;go_wp2;go_loopg [7] up.length (fun g i wr=>∃k:Nat,k≤up.length∧g=up.length-k∧i=.int .i64 k∧w=wr∧∀x,x<k→sV up a b x=false);·exact⟨0,by omega,by omega,rfl,rfl,fun x hx=>by omega⟩
 obtain⟨k,hk,rfl,rfl,rfl,a1⟩:=hrel;have HA:=oH a1;clear a1;by_cases b2:k<up.length;·(
 cases I:(aJ up k).getLsbD a with
 |false=>
  have HR:=oH (show kv up a b k=false by unfold kv;rw[I];rfl);have HF:=oH (show sV up a b k=false by rw[pN,HR.out];rfl);go_wp2_with (go_at_call 202;refine(dl S _ _ up _ _ _ _ HU.out (by omega) (by omega) C (by assumption)).mono ?_;rintro e Y ⟨rfl,rfl⟩);clear I;go_loopg [8,9] up.length (fun g is j wr=>∃m:Nat,m≤up.length∧g=up.length-m∧j=.int .i64 m∧is=.bool false∧w=wr);·exact⟨0,by omega,by omega,rfl,rfl,rfl⟩
  obtain⟨m,hm,rfl,rfl,rfl,rfl⟩:=hrel;by_cases a6:m<up.length
  all_goals
   go_wp2;go_roundg (up.length-(k+1))
   ·refine⟨k+1,by omega,rfl,by go_num,rfl,fun x hx=>?_⟩;by_cases e:x=k;·subst e;exact HF.out
    exact HA.out x (by omega)
   omega
 |true=>
  cases a7:(aJ up k).getLsbD b with
  |false=>
   have HR:=oH (show kv up a b k=false by unfold kv;rw[I,a7];rfl);have HF:=oH (show sV up a b k=false by rw[pN,HR.out];rfl);go_wp2_with (go_at_call 202;refine(dl S _ _ up _ _ _ _ HU.out (by omega) (by omega) C (by assumption)).mono ?_;rintro e Y ⟨rfl,rfl⟩);clear I;go_loopg [8,9] up.length (fun g is j wr=>∃m:Nat,m≤up.length∧g=up.length-m∧j=.int .i64 m∧is=.bool false∧w=wr);·exact⟨0,by omega,by omega,rfl,rfl,rfl⟩
   obtain⟨m,hm,rfl,rfl,rfl,rfl⟩:=hrel;by_cases a6:m<up.length
   all_goals
    go_wp2;go_roundg (up.length-(k+1))
    ·refine⟨k+1,by omega,rfl,by go_num,rfl,fun x hx=>?_⟩;by_cases e:x=k;·subst e;exact HF.out
     exact HA.out x (by omega)
    omega
  |true=>
   have HR:=oH (show kv up a b k=true by unfold kv;rw[I,a7];rfl);go_wp2_with (go_at_call 202;refine(dl S _ _ up _ _ _ _ HU.out (by omega) (by omega) C (by assumption)).mono ?_;rintro e Y ⟨rfl,rfl⟩);clear I a7;go_loopg [8,9] up.length (fun g is j wr=>∃m:Nat,m≤up.length∧g=up.length-m∧j=.int .i64 m∧is=.bool ((List.range m).all (fF up a b k))∧w=wr);·exact⟨0,by omega,by omega,rfl,rfl,rfl⟩
   obtain⟨m,hm,rfl,rfl,rfl,rfl⟩:=hrel;cases J:(List.range m).all (fF up a b k) with
   |false=>
    have HF:=oH (show sV up a b k=false by rw[pN,uD hm J];simp);clear J;by_cases a6:m<up.length
    all_goals
     go_wp2;go_roundg (up.length-(k+1));·(
 refine⟨k+1,by omega,rfl,by go_num,rfl,fun x hx=>?_⟩;by_cases e:x=k;·subst e;exact HF.out
 exact HA.out x (by omega))
     omega
   |true=>
    by_cases a6:m<up.length;·(
 have o:=xJ m (fF up a b k);rw[J,Bool.true_and] at o;cases R:(aJ up m).getLsbD a with
 |false=>
  have HN:=oH (show(List.range (m+1)).all (fF up a b k)=true by rw[o,fF,R];rfl);clear o J;go_wp2_with (go_at_call 202;refine(dl S _ _ up _ _ _ _ HU.out (by omega) (by omega) C (by assumption)).mono ?_;rintro e Y ⟨rfl,rfl⟩);go_roundg (up.length-(m+1));·exact⟨m+1,by omega,rfl,by go_num,by rw[HN.out],rfl⟩
  omega
 |true=>
  cases a8:(aJ up m).getLsbD b with
  |false=>
   have HN:=oH (show(List.range (m+1)).all (fF up a b k)=true by rw[o,fF,R,a8];rfl);clear o J;go_wp2_with (go_at_call 202;refine(dl S _ _ up _ _ _ _ HU.out (by omega) (by omega) C (by assumption)).mono ?_;rintro e Y ⟨rfl,rfl⟩);go_roundg (up.length-(m+1));·exact⟨m+1,by omega,rfl,by go_num,by rw[HN.out],rfl⟩
   omega
  |true=>
   cases b1:(aJ up m).getLsbD k with
   |false=>
    have HN:=oH (show(List.range (m+1)).all (fF up a b k)=false by rw[o,fF,R,a8,b1];rfl);clear o J;go_wp2_with (go_at_call 202;refine(dl S _ _ up _ _ _ _ HU.out (by omega) (by omega) C (by assumption)).mono ?_;rintro e Y ⟨rfl,rfl⟩);go_roundg (up.length-(m+1));·exact⟨m+1,by omega,rfl,by go_num,by rw[HN.out],rfl⟩
    omega
   |true=>
    have HN:=oH (show(List.range (m+1)).all (fF up a b k)=true by rw[o,fF,R,a8,b1];rfl);clear o J;go_wp2_with (go_at_call 202;refine(dl S _ _ up _ _ _ _ HU.out (by omega) (by omega) C (by assumption)).mono ?_;rintro e Y ⟨rfl,rfl⟩);go_roundg (up.length-(m+1));·exact⟨m+1,by omega,rfl,by go_num,by rw[HN.out],rfl⟩
    omega)
    obtain rfl:m=up.length:=by omega
    have HV:=oH (show iZ up a b=k from lI b2 (by rw[pN,HR.out,J];rfl) HA.out);clear J;go_wp2;go_ret;exact⟨by rw[HV.out];rfl,rfl⟩)
 obtain rfl:k=up.length:=by omega
 have HV:=oH (show iZ up a b= -1 from jW HA.out);go_wp2;go_ret;exact⟨by rw[HV.out];rfl,rfl⟩
theorem us (S:Nat→Prop)(v:Value)(up:List (BitVec 64))(w:World)(hv:nZ S w v up):
 Calls prog 91 #[v] w fun e w'=>e=.returned (.bool (pB (ue up)))∧aa All w w':=by
 have o:=AY S v up w hv;have a1:=hv;obtain⟨A,cap,rfl,h1,h2,_,_⟩:=hv;unfold maxLen at h2;by_cases ho:dI up;·(
 rw[av ho] at o;have a7:=ho.2.1;have HU:=oH fun wn (hk:aa All w wn)=>dU.keep (S:=S) hk.all a1;have HO:=J2 o ho;clear o ho a1;go_enter func91,ntmps91;go_wp2_with fail;refine HO.1.mono ?_;rintro e w1 ⟨rfl,I⟩;have H1:=oH I;clear I;go_wp2_with fail;go_loopg [3] up.length (fun g i wr=>∃a:Nat,a≤up.length∧g=up.length-a∧i=.int .i64 a∧w1=wr∧∀x,x<a→∀y,y<x→0≤iY up x y∧0≤iZ up x y);·exact⟨0,by omega,by omega,rfl,rfl,fun x hx=>by omega⟩
 obtain⟨a,ha,rfl,rfl,rfl,C⟩:=hrel;have HA:=oH C;clear C;by_cases a6:a<up.length;·(
 go_wp2_with fail;go_loopg [4] a (fun g i wr=>∃b:Nat,b≤a∧g=a-b∧i=.int .i64 b∧w1=wr∧∀y,y<b→0≤iY up a y∧0≤iZ up a y);·exact⟨0,by omega,by omega,rfl,rfl,fun x hx=>by omega⟩
 obtain⟨b,hb,rfl,rfl,rfl,C⟩:=hrel;have HB:=oH C;clear C;by_cases a8:b<a;·(
 have hj:=fun wn (hk:aa All w wn)=>DU S (.slice A up.length cap) up a b wn (HU.out wn hk) a7 a6 (by omega);have hm:=fun wn (hk:aa All w wn)=>DW S (.slice A up.length cap) up a b wn (HU.out wn hk) a7 a6 (by omega);have b4: -1≤iY up a b∧iY up a b<up.length:=wP _ _;have b5: -1≤iZ up a b∧iZ up a b<up.length:=wP _ _;have b0:¬(0≤iY up a b∧0≤iZ up a b)→pB (ue up)=false:=fun h=>au fun h'=>h (h'.2 a a6 b a8);have Y:0≤iY up a b∧0≤iZ up a b→∀y,y<b+1→0≤iY up a y∧0≤iZ up a y:=fun h y hy=>by
  by_cases e:y=b;·subst e;exact h
  exact HB.out y (by omega)
 generalize iY up a b=j at*;generalize iZ up a b=m at*;have R:=J4 hj hm b0 Y;clear hj hm b0 Y;by_cases b1:j<0
 ·have hd:decide (j<0)=true:=by simpa using b1
  have J:=oH (R.2.2.1 (by omega));go_wp2_with (first|(go_at_call 143;refine(R.1 _ H1.out).mono ?_;rintro e w' ⟨rfl,rfl⟩)|(go_at_call 144;refine(R.2.1 _ H1.out).mono ?_;rintro e w' ⟨rfl,rfl⟩));go_ret;exact⟨by rw[J.out];rfl,H1.out⟩
 have hd:decide (j<0)=false:=by simpa using b1
 by_cases b2:m<0
 ·have b3:decide (m<0)=true:=by simpa using b2
  have J:=oH (R.2.2.1 (by omega));go_wp2_with (first|(go_at_call 143;refine(R.1 _ H1.out).mono ?_;rintro e w' ⟨rfl,rfl⟩)|(go_at_call 144;refine(R.2.1 _ H1.out).mono ?_;rintro e w' ⟨rfl,rfl⟩));go_ret;exact⟨by rw[J.out];rfl,H1.out⟩
 have b3:decide (m<0)=false:=by simpa using b2
 have HY:=oH (R.2.2.2 (by omega));go_wp2_with (first|(go_at_call 143;refine(R.1 _ H1.out).mono ?_;rintro e w' ⟨rfl,rfl⟩)|(go_at_call 144;refine(R.2.1 _ H1.out).mono ?_;rintro e w' ⟨rfl,rfl⟩));go_roundg (a-(b+1));·exact⟨b+1,by omega,rfl,by go_num,rfl,HY.out⟩
 omega)
 obtain rfl:b=a:=by omega
 go_wp2_with fail;go_roundg (up.length-(b+1))
 ·refine⟨b+1,by omega,rfl,by go_num,rfl,fun x hx=>?_⟩
  by_cases e:x=b;·subst e;exact HB.out
  exact HA.out x (by omega)
 omega)
 obtain rfl:a=up.length:=by omega
 have HY:=oH (av (P:=ue up) ⟨HO.2,HA.out⟩);go_wp2_with fail;go_ret;exact⟨by rw[HY.out];rfl,H1.out⟩)
 rw[au ho] at o;have J:=oH (au (P:=ue up) fun h=>ho h.1);have HP:=oH o;clear o ho a1;go_enter func91,ntmps91;go_wp2_with fail;refine HP.out.mono ?_;rintro e w1 ⟨rfl,I⟩;have H1:=oH I;clear I;go_wp2_with fail;go_ret;exact⟨by rw[J.out];rfl,H1.out⟩
end
def BA:Array Value:=(mu.map fun l=>Value.string ⟨l.toArray⟩).toArray
theorem Ex {k:Nat}{l:List UInt8}(h:mu[k]? =some l):BA[k]? =some (.string ⟨l.toArray⟩):=by simp[BA,h]
theorem DZ (s:ByteArray)(w:World):Calls prog 146 #[.string s] w fun e w'=>e=.returned (.bool (jv s))∧aa All w w':=by
 have C:mu.length=26:=rfl;go_enter func146,ntmps146;go_wp2;go_loopg [4] 26 (fun g i wr=>∃k:Nat,k≤26∧g=26-k∧i=.int .i64 k∧aa All w wr∧al wr w.heap.size 9 BA∧∀y∈mu.take k,(fun l:List UInt8=>s.toList==l) y=false);·exact⟨0,by omega,by omega,rfl,kR.alloc _,al.new _ _ _,by simp⟩
 obtain⟨k,hk,rfl,rfl,j,o,I⟩:=hrel;have J:=J3 j o I;by_cases a1:k<26
 ·obtain⟨l,R⟩:∃l,mu[k]? =some l:=⟨_,lG (by omega)⟩;have hc:=o.cell k;rw[Ex R] at hc;have HL:=J2 R C;clear j o I R C;cases hq:l==s.toList with
  |true=>have Y:jv s=true:=mW.2 ⟨l,mG HL.1,by rw[cy] at hq⊢;exact hq.symm⟩;have HR:=oH Y;clear Y;go_wp2;go_ret;exact⟨by rw[HR.out];rfl,J.1⟩
  |false=>
   have HR:=oH (pP (p:=fun l:List UInt8=>s.toList==l) HL.1 (by rw[bE] at hq⊢;exact fun e=>hq e.symm) J.2.2);go_wp2;go_roundg (26-(k+1));·exact⟨k+1,by omega,rfl,by go_num,J.1,J.2.1,HR.out⟩
   omega
 obtain rfl:k=26:=by omega
 have Y:jv s=false:=by have h:=J.2.2;rw[←C,dZ] at h;exact List.any_eq_false.2 fun l R=>by have e:(s.toList==l)=false:=h l R;rw[e];simp
 have HR:=oH Y;clear Y j o I;go_wp2;go_ret;exact⟨by rw[HR.out];rfl,J.1⟩
theorem AT (r:Int)(w:World):Calls prog 208 #[.int .i64 r] w fun e j=>e=.returned (.bool (fY r))∧w=j:=by
 unfold fY od;by_cases o:48≤r
 ·go_enter func208,ntmps208
  go_wp2;go_ret;exact⟨by simp[o],rfl⟩
 go_enter func208,ntmps208;go_wp2;go_ret;exact⟨by simp;omega,rfl⟩
theorem zg (r:Int)(w:World)(J:0≤r)(R:r≤2147483647):Calls prog 207 #[.int .i64 r] w fun e C=>e=.returned (.bool (ey r))∧w=C:=by
 have j:(r<65∨(65≤r∧r≤90)∨(91≤r∧r≤94))∨(r=95∨r=96∨(97≤r∧r≤122))∨((123≤r∧r≤912)∨(913≤r∧r≤929)∨r=930)∨((931≤r∧r≤937)∨(938≤r∧r≤944)∨(945≤r∧r≤969)∨970≤r):=by omega
 rcases j with (h|⟨h,h'⟩|⟨h,h'⟩)|(rfl|rfl|⟨h,h'⟩)|(⟨h,h'⟩|⟨h,h'⟩|rfl)|(⟨h,h'⟩|⟨h,h'⟩|⟨h,h'⟩|h)
 all_goals
  try have I:(r==95)=false:=by rw[bE];omega
  try have o:(r !=930)=true:=by rw[bne_iff_ne];omega
  go_enter func207,ntmps207;go_wp2
 all_goals
  go_ret;exact⟨congrArg Ending.returned (congrArg Value.bool (by first|rfl|(rw[Bool.eq_iff_iff];simp[ey,od];omega))),rfl⟩
section
def dt (s:ByteArray)(i:Nat):Nat:=(s.get! i).toNat
theorem mb (s:ByteArray)(i:Nat):dt s i<256:=(s.get! i).toNat_lt
theorem dA (s:ByteArray)(i:Nat)(h:i<s.size):dt s i=(s[i]' h).toNat:=by unfold dt;rw[show s.get! i=s[i]' h by simpa using get_at s i h]
def aW (s:ByteArray)(i lo hi:Nat):Bool:=decide (i<s.size)&&decide (lo≤dt s i)&&decide (dt s i≤hi)
theorem Gj (s:ByteArray)(i lo hi:Nat)(w:World):Calls prog 237 #[.string s,.int .i64 i,.int .u8 lo,.int .u8 hi] w fun e C=>e=.returned (.bool (aW s i lo hi))∧w=C:=by
 unfold aW;by_cases h:i<s.size;·(
 have o:=oH (dA s i h);by_cases j:lo≤(s[i]' h).toNat
 ·go_enter func237,ntmps237
  go_wp2;go_ret;exact⟨by rw[o.out];simp[h,j],rfl⟩
 have I:decide (lo≤(s[i]' h).toNat)=false:=by simpa using j
 go_enter func237,ntmps237;go_wp2
 all_goals
  go_ret;exact⟨by rw[o.out];simp[h];omega,rfl⟩)
 go_enter func237,ntmps237;go_wp2;go_ret;exact⟨by simp[h],rfl⟩
theorem kz (s:ByteArray)(a lo hi:Int)(i:Nat)(w:World)(j:a=i)(C:0≤lo∧lo<256)(I:0≤hi∧hi<256)(_:s.size≤9223372036854775807):Calls prog 237 #[.string s,.int .i64 a,.int .u8 lo,.int .u8 hi] w fun e o=>e=.returned (.bool (aW s i lo.toNat hi.toNat))∧w=o:=by obtain⟨l,rfl⟩:∃l:Nat,lo=l:=⟨lo.toNat,by omega⟩;obtain⟨h,rfl⟩:∃h:Nat,hi=h:=⟨hi.toNat,by omega⟩;subst j;rw[dP,dP];exact Gj s i l h w
theorem JX (n:Nat)(h:n<256):IntKind.u8.wrap (n:Int)=n:=by simp[IntKind.wrap,IntKind.bits,IntKind.signed];omega
section
variable {P:Program} {w:World} (t:TypeId) (x:UInt8)
theorem ww (m:Nat)(hm:m<256):(binOp .and t (.int .u8 (x.toNat:Int)) (.int .u8 (m:Int))).run P w=.ok (.int .u8 ((x.toNat&&&m:Nat):Int)) w:=by
 show Result.ok (Value.int .u8 (IntKind.u8.wrap ((BitVec.ofInt 8 (x.toNat:Int)&&&BitVec.ofInt 8 (m:Int)).toNat:Int))) w=_;have j:=x.toNat_lt;have e:(BitVec.ofInt 8 (x.toNat:Int)&&&BitVec.ofInt 8 (m:Int)).toNat=x.toNat&&&m:=by rw[BitVec.toNat_and,BitVec.toNat_ofInt,BitVec.toNat_ofInt];congr 1<;>omega
 rw[e,JX _ (Nat.lt_of_le_of_lt Nat.and_le_left j)]
theorem Kh:(binOp .and t (.int .u8 (x.toNat:Int)) (.int .u8 31)).run P w=.ok (.int .u8 ((x.toNat%32:Nat):Int)) w:=by rw[←Nat.and_two_pow_sub_one_eq_mod x.toNat 5];exact ww t x 31 (by decide)
theorem Ki:(binOp .and t (.int .u8 (x.toNat:Int)) (.int .u8 63)).run P w=.ok (.int .u8 ((x.toNat%64:Nat):Int)) w:=by rw[←Nat.and_two_pow_sub_one_eq_mod x.toNat 6];exact ww t x 63 (by decide)
theorem Kg:(binOp .and t (.int .u8 (x.toNat:Int)) (.int .u8 15)).run P w=.ok (.int .u8 ((x.toNat%16:Nat):Int)) w:=by rw[←Nat.and_two_pow_sub_one_eq_mod x.toNat 4];exact ww t x 15 (by decide)
theorem Me:(binOp .and t (.int .u8 (x.toNat:Int)) (.int .u8 7)).run P w=.ok (.int .u8 ((x.toNat%8:Nat):Int)) w:=by rw[←Nat.and_two_pow_sub_one_eq_mod x.toNat 3];exact ww t x 7 (by decide)
end
attribute [local go_sem] Kh Ki Kg Me
def aM (s:ByteArray)(i:Nat):Nat×Nat:=
 if dt s i<128 then(dt s i,1)
 else if(194≤dt s i∧dt s i≤223)∧aW s (i+1) 128 191=true then(dt s i%32*64+dt s (i+1)%64,2)
 else if(224≤dt s i∧dt s i≤239)∧aW s (i+1) (if dt s i=224 then 160 else 128) (if dt s i=237 then 159 else 191)=true∧aW s (i+2) 128 191=true then
  (dt s i%16*4096+dt s (i+1)%64*64+dt s (i+2)%64,3)
 else if(240≤dt s i∧dt s i≤244)∧aW s (i+1) (if dt s i=240 then 144 else 128) (if dt s i=244 then 143 else 191)=true∧aW s (i+2) 128 191=true∧aW s (i+3) 128 191=true then
  (dt s i%8*262144+dt s (i+1)%64*4096+dt s (i+2)%64*64+dt s (i+3)%64,4)
 else(0,0)
theorem FI (s:ByteArray)(i:Nat)(w:World)(hi:i<s.size)(hs:s.size≤140737488355328)(h:dt s i<224):Calls prog 206 #[.string s,.int .i64 i] w fun e w'=>e=.returned (.tuple #[.int .i64 ((aM s i).1:Nat),.int .i64 ((aM s i).2:Nat)])∧w=w':=by
 have hm:=fun a lo hi k w h0 h1 h2=>kz s a lo hi k w h0 h1 h2 (by omega);have HM:=oH hm;have o:=dA s i hi;have h3:(s[i]' hi).toNat<256:=(s[i]' hi).toNat_lt;clear hm;by_cases I:dt s i<128
 ·have C:aM s i=(dt s i,1):=by unfold aM;rw[ap I]
  rw[C];rw[o] at I h⊢;have Y:=J2 C o;clear C o;go_enter func206,ntmps206;go_wp2;go_ret2;exact⟨rfl,rfl⟩
 by_cases hB:194≤dt s i;·(
 cases j:aW s (i+1) 128 191 with
 |true=>
  have J:i+1<s.size:=by unfold aW at j;simp only[gE,qal] at j;exact j.1.1
  have R:=dA s (i+1) J;have h4:(s[i+1]' J).toNat<256:=(s[i+1]' J).toNat_lt;have C:aM s i=(dt s i%32*64+dt s (i+1)%64,2):=by unfold aM;rw[ae I,ap ⟨⟨hB,by omega⟩,j⟩]
  rw[C];rw[o] at I h hB⊢;rw[R];have Y:=J3 j o R;clear C o R j;go_enter func206,ntmps206;go_wp2_with (go_at_call 237;refine(HM.out _ _ _ (i+1) _ (by omega) (by omega) (by omega)).mono ?_;rintro e w' ⟨rfl,rfl⟩;rw[show aW s (i+1) (Int.toNat 128) (Int.toNat 191)=true from Y.1]);go_ret2;exact⟨by simp,rfl⟩
 |false=>
  have C:aM s i=(0,0):=by unfold aM;rw[ae I,ae (by rw[j];simp),ae (by omega),ae (by omega)]
  rw[C];rw[o] at I h hB;have Y:=J2 j o;clear C o j;go_enter func206,ntmps206;go_wp2_with (go_at_call 237;refine(HM.out _ _ _ (i+1) _ (by omega) (by omega) (by omega)).mono ?_;rintro e w' ⟨rfl,rfl⟩;rw[show aW s (i+1) (Int.toNat 128) (Int.toNat 191)=false from Y.1]);go_ret2;exact⟨rfl,rfl⟩)
 have C:aM s i=(0,0):=by unfold aM;rw[ae I,ae (by omega),ae (by omega),ae (by omega)]
 rw[C];rw[o] at I h hB;have Y:=oH o;clear C o;go_enter func206,ntmps206;go_wp2;go_ret2;exact⟨rfl,rfl⟩
end
end Go.Proofs.YtccbbkopmlnkpaaGreatDoor
