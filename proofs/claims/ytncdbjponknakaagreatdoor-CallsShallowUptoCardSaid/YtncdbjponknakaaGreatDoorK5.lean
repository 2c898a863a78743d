/- Part 6 of the proof of CallsShallow (its last part says what is proved). No condition. -/
import Derived.Deep.DeepCutAuto
import Derived.Deep.CutBlock
import Derived.StillTailTactics
import Derived.RangeFuncNested
import Derived.RangeFuncBound
import Derived.Shelf.RegionOpen
import Derived.OwnWalkIn
import Derived.LoopNIn
import Derived.LoopIn
import Derived.Test.YtncdbjponknakaaGreatDoorK4
namespace Go.Proofs.YtncdbjponknakaaGreatDoor
set_option maxRecDepth 100000
set_option maxHeartbeats 8000000
open Go.RowKit Go.Proofs.Tryz
theorem Bh (s:ByteArray)(w:World):Calls prog 161 #[.string s] w fun e j=>e=.returned (.string s)∧aa All w j:=by go_enter func161,ntmps161;go_wp2;go_ret;exact⟨rfl,kR⟩
theorem Bi (s:ByteArray)(j:Nat)(o:ByteArray)(p q:Value)(l:Int)(w:World)(C:al w j 226 #[.string o,p,q,.int .i64 l]):
 Calls prog 162 #[.string s,.pointer (some ⟨j,0,none⟩)] w fun e J=>e=.returned (.int .i64 l)∧aa All w J:=by
 have R:=C.cell 3;simp only[gc] at R;go_enter func162,ntmps162;go_wp2;go_ret;exact⟨rfl,kR⟩
theorem GR (j:ByteArray)(l:Option Addr)(o C:Nat)(J:Option Addr)(R Y:Nat)(Z:Int)(w:World):Calls prog 140 #[.agg #[.string j,.slice l o C,.slice J R Y,.int .i64 Z]] w fun e w'=>e=.returned (.string j)∧aa All w w':=by go_enter func140,ntmps140;go_wp2;go_ret;exact⟨rfl,kR.alloc _⟩
theorem GS (l:ByteArray)(o:Option Addr)(C J:Nat)(R:Option Addr)(Y Z:Nat)(j:Int)(w:World):Calls prog 141 #[.agg #[.string l,.slice o C J,.slice R Y Z,.int .i64 j]] w fun e w'=>e=.returned (.int .i64 j)∧aa All w w':=by go_enter func141,ntmps141;go_wp2;go_ret;exact⟨rfl,kR.alloc _⟩
theorem Bj (j:ByteArray)(l:Option Addr)(o C:Nat)(J:Int)(w:World):Calls prog 164 #[.agg #[.string j,.slice l o C,.int .i64 J]] w fun e R=>e=.returned (.string j)∧aa All w R:=by go_enter func164,ntmps164;go_wp2;go_ret;exact⟨rfl,kR.alloc _⟩
theorem Bk (l:ByteArray)(o:Option Addr)(C J:Nat)(j:Int)(w:World):Calls prog 165 #[.agg #[.string l,.slice o C J,.int .i64 j]] w fun e R=>e=.returned (.int .i64 j)∧aa All w R:=by go_enter func165,ntmps165;go_wp2;go_ret;exact⟨rfl,kR.alloc _⟩
theorem kB {l:List ByteArray}{s:ByteArray}(h:l.Nodup)(j:s∉l):(l++[s]).Nodup:=by rw[List.nodup_append];exact⟨h,by simp,fun a o b C e=>by rw[cx.1 C] at e;exact j (e▸o)⟩
theorem jR {l:List ByteArray}{k:Nat}{s:ByteArray}(J:l[k]? =some s)(hm:s∈l.take k):¬l.Nodup:=by intro h;obtain⟨i,hi⟩:=List.getElem?_of_mem hm;have j:=(lS.1 hi).1;rw[fN] at j;rw[rY (by omega)] at hi;have o:=lS.1 hi;have C:=lS.1 J;have:=(List.getElem_inj (h₀:=o.1) (h₁:=C.1) h).1 (o.2.trans C.2.symm);omega
def rU (l:List ByteArray)(w:World)(e:Ending)(w':World):Prop:=ql l.Nodup (fun e w'=>∃b,e=.returned (.map (some b))∧cK w' b l∧w.heap.size≤b∧b<w'.heap.size∧aa All w w') w e w'
theorem am {w j:World}(h:aa (fun b=>b<w.heap.size) w j):aa All w j:=⟨h.os,h.output,h.size,fun k l _=>h.block k l l⟩
theorem un (S:Nat→Prop)(v:Value)(l:List ByteArray)(bf:Nat)(nm:ByteArray)(p q:Value)(Nj:Int)(w:World)(hv:gB S w v l)(hf:al w bf 226 #[.string nm,p,q,.int .i64 Nj])(c8:aV Nj)(hl:l.length≤900000)(b6:∀s∈l,s.size≤140737488355328):
 Calls prog 160 #[v,.func (.func 161) #[] #[],.func (.func 162) #[] #[.pointer (some ⟨bf,0,none⟩)]] w (rU l w):=by
 have b7:=ax.la hv;obtain⟨A1,c1,rfl,l1,l2,l3,_⟩:=hv;unfold maxLen at l2;have HV:=oH b7;clear b7;obtain⟨W0,Z⟩:=eQ (w.alloc (.map #[] 0));have b8:cK W0 w.heap.size []:=by rw[Z];exact cK.new w
 have b9:aa All w W0:=by rw[Z];exact kR.alloc _
 have c0:W0.heap.size=w.heap.size+1:=by rw[Z];simp
 have HF:=J2 hf b6;clear hf b6;have H0:=J4 Z b8 b9 c0;clear Z b8 b9 c0;have c9:=@run_makeMap prog;go_enter func160,ntmps160;go_upto_region 2 with fail;clear c9;rw[←H0.1];go_wp2_with fail;go_loopg [15] l.length (fun g d7 wr=>∃j:Nat,j≤l.length∧g=l.length-j∧d7=.int .i64 j∧aa (fun b=>b≠w.heap.size) W0 wr∧cK wr w.heap.size (l.take j)∧(l.take j).Nodup);·exact⟨0,by omega,by omega,rfl,kR,H0.2.1,by simp⟩
 obtain⟨j,hj,rfl,rfl,a1,hm,a6⟩:=hrel;have R:aa All w wr:=am (H0.2.2.1.all.trans (a1.mono fun b hb=>by show b≠_;omega));by_cases d8:j<l.length;·(
 obtain⟨s,hs⟩:=eG d8;obtain⟨bb,o,cc,rfl,e2,e3,rfl⟩:=bn (HV.out wr R) hs;have e4:=HF.2 s (mG hs);have c2:l[j]? =some s:=hs;obtain⟨W1,b1⟩:=eQ wr;have b2:aa All wr W1:=by rw[b1];exact kR
 have HA:=J2 (fun wn=>Bh s wn) (fun wn (hk:aa All W1 wn)=>Bi s bf nm p q Nj wn (((HF.1.kept R trivial).kept b2 trivial).kept hk trivial));have d9:=oH (show aV Nj from c8);have Y:=J7 a1 hm a6 R c2 b1 b2;clear a1 hm a6 R c2 b1 b2;go_upto_region 5 with fail;skip;go_wp2_with fail;refine(HA.1 _).mono ?_;rintro e w2 ⟨rfl,b3⟩;have a7:aa All wr w2:=b3;have c3:aa All W1 w2:=by rw[Y.2.2.2.2.2.1];exact b3
 have b4:=Y.2.1.keep a7 trivial;have a8:=b4.look (s:=s) (by unfold maxLen;omega);have H2:=J3 a7 c3 b4;clear a7 c3 b4 b3;obtain⟨r,hr⟩:=eR (aO (l.take j) s);rw[hr] at a8;by_cases C:0≤r;·rw[Int.max_eq_left C,bL C] at a8;have HN:=oH (fun h:l.Nodup=>jR Y.2.2.2.2.1 (cm.1 (by rw[hr];exact C)) h);clear hr C;go_wp2_with fail;refine(HA.2 _ H2.2.1).mono ?_;rintro e w3 ⟨rfl,J⟩;have c4:=oH J;clear J;go_wp2_with (go_at_call 137;refine(fP _ _ _).mono ?_;rintro e w4 ⟨rfl,rfl⟩);exact⟨rfl,.inr ⟨HN.out,⟨Nj,9,by decide,d9.out,by unfold aV;omega,rfl⟩,(Y.2.2.2.1.trans H2.1).trans c4.out⟩⟩
 rw[cI C] at a8;have HN:=J2 (show aO (l.take j) s<0 by rw[hr];omega) (show¬(s∈l.take j) from fun h=>by have:=cm.2 h;omega);clear hr C;go_wp2_with fail;refine(HA.2 _ H2.2.1).mono ?_;rintro e w3 ⟨rfl,J⟩;have c4:=oH (H2.2.1.trans J);have e0:=oH (H2.2.2.keep J trivial);have e1:=oH (H2.1.trans J);clear J a8;go_wp2_with (go_at_call 137;refine(dX _ _ _).mono ?_;rintro e w4 ⟨rfl,rfl⟩);refine(HA.1 _).mono ?_;rintro e w5 ⟨rfl,b5⟩;have b0:(l.take j).length=j:=by rw[fN];omega
 have c5:=J2 (e0.out.keep b5 trivial) (e1.out.trans b5);clear b5;go_wp2_with (at_mapUpdate;go_loud (refine gN rfl _ _ _ rfl w.heap.size _ rfl c5.1 (by rw[b0];omega) _ rfl (by rw[b0];rfl) (by unfold maxLen;omega) HN.1 ?_;intro w6 c6 c7;have H6:=J2 c6 c7;clear c6 c7));go_roundg (l.length-(j+1))
 ·have e:l.take (j+1)=l.take j++[s]:=by rw[cU,Y.2.2.2.2.1];rfl
  refine⟨j+1,by omega,rfl,by go_num,(Y.1.trans c5.2.all).grown H6.2 fun b hb=>.inl fun h=>h (by injection hb with hb;exact hb.symm),?_,?_⟩;·rw[e];exact H6.1
  rw[e];exact kB Y.2.2.1 HN.2
 omega)
 obtain rfl:j=l.length:=by omega
 rw[oF (by simp)] at hm a6;have Y:=J4 a1 hm a6 R;clear a1 hm a6 R;go_wp2_with fail;go_ret;have:=Y.1.size;have:=H0.2.2.2;exact .inl ⟨Y.2.2.1,_,rfl,Y.2.1,by omega,by omega,Y.2.2.2⟩
theorem um (S:Nat→Prop)(v:Value)(l:List cD)(w:World)(hv:BC S w v l)(hl:l.length≤900000):
 Calls prog 139 #[v,.func (.func 140) #[] #[],.func (.func 141) #[] #[]] w (rU (l.map fun x=>x.name) w):=by
 have b8:=iX.la hv;obtain⟨A1,c1,rfl,l1,l2,l3,_⟩:=hv;unfold maxLen at l2;have HV:=oH b8;clear b8;obtain⟨W0,a1⟩:=eQ (w.alloc (.map #[] 0));have b9:cK W0 w.heap.size []:=by rw[a1];exact cK.new w
 have c0:aa All w W0:=by rw[a1];exact kR.alloc _
 have c2:W0.heap.size=w.heap.size+1:=by rw[a1];simp
 have H0:=J4 a1 b9 c0 c2;clear a1 b9 c0 c2;have d7:=@run_makeMap prog;go_enter func139,ntmps139;go_upto_region 2 with fail;clear d7;rw[←H0.1];go_wp2_with fail;go_loopg [15] l.length (fun g d8 wr=>∃j:Nat,j≤l.length∧g=l.length-j∧d8=.int .i64 j∧aa (fun b=>b≠w.heap.size) W0 wr∧cK wr w.heap.size ((l.map fun x=>x.name).take j)∧((l.map fun x=>x.name).take j).Nodup);·exact⟨0,by omega,by omega,rfl,kR,H0.2.1,by simp⟩
 obtain⟨j,hj,rfl,rfl,a6,hm,a7⟩:=hrel;have a8:aa All w wr:=am (H0.2.2.1.all.trans (a6.mono fun b hb=>by show b≠_;omega));by_cases d9:j<l.length;·(
 obtain⟨x,hx⟩:=eG d9;obtain⟨bb,o,cs,rfl,e7,e8,hc,vp,vb,rfl,e0,e1,e2,e3,_⟩:=aZ (HV.out wr a8) hx;obtain⟨p1,p3,rfl,_⟩:=e0;obtain⟨q1,q3,rfl,_⟩:=e1;have z0:=hc 0 _ rfl;rw[dj] at z0;have z1:=hc 1 _ rfl;have z2:=hc 2 _ rfl;have z3:=hc 3 _ rfl;have c3:(l.map fun x=>x.name)[j]? =some x.name:=by rw[cL,hx];rfl
 have e9:=e3;obtain⟨W1,b2⟩:=eQ (wr.alloc (.cells #[.string x.name,.slice p1 x.params.length p3,.slice q1 x.Ng.length q3,.int .i64 x.Nj] 226));have c4:aa All wr W1:=by rw[b2];exact kR.alloc _
 have b1:al W1 wr.heap.size 226 #[.string x.name,.slice p1 x.params.length p3,.slice q1 x.Ng.length q3,.int .i64 x.Nj]:=by rw[b2];exact ac rfl
 have c5:∀wn,aa All W1 wn→∀i,wn.cell? ⟨wr.heap.size,i,none⟩=(#[.string x.name,.slice p1 x.params.length p3,.slice q1 x.Ng.length q3,.int .i64 x.Nj]:Array Value)[i]?:=fun wn hk i=>(b1.kept hk trivial).cell i;have HA:=J2 (fun wn=>GR x.name p1 x.params.length p3 q1 x.Ng.length q3 x.Nj wn) (fun wn (_:aa All W1 wn)=>GS x.name p1 x.params.length p3 q1 x.Ng.length q3 x.Nj wn);have Z:=oH c5;have e4:=oH (show aV x.Nj from e2);clear c5 b1 hc;have R:=J7 a6 hm a7 a8 c3 b2 c4;clear a6 hm a7 a8 c3 b2 c4;go_upto_region 5 with fail;rw[←R.2.2.2.2.2.1];have g0:=Z.out W1 kR 0;have g1:=Z.out W1 kR 1;have g2:=Z.out W1 kR 2;have g3:=Z.out W1 kR 3;simp only[gc] at g0 g1 g2 g3;go_wp2_with fail;refine(HA.1 _).mono ?_;rintro e w2 ⟨rfl,b5⟩;have b0:aa All wr w2:=R.2.2.2.2.2.2.trans b5;have c6:aa All W1 w2:=b5;have b6:=R.2.1.keep b0 trivial;have b3:=b6.look (s:=x.name) (by unfold maxLen;omega);have H2:=J3 b0 c6 b6;clear b0 c6 b6 b5;have k0:=Z.out w2 (H2.2.1) 0;have k1:=Z.out w2 (H2.2.1) 1;have k2:=Z.out w2 (H2.2.1) 2;have k3:=Z.out w2 (H2.2.1) 3;simp only[gc] at k0 k1 k2 k3;obtain⟨r,hr⟩:=eR (aO ((l.map fun x=>x.name).take j) x.name);rw[hr] at b3;by_cases C:0≤r;·rw[Int.max_eq_left C,bL C] at b3;have HN:=oH (fun h:(l.map fun x=>x.name).Nodup=>jR R.2.2.2.2.1 (cm.1 (by rw[hr];exact C)) h);clear hr C;go_wp2_with fail;refine(HA.2 _ H2.2.1).mono ?_;rintro e w3 ⟨rfl,J⟩;have Y:=oH J;clear J;go_wp2_with (go_at_call 137;refine(fP _ _ _).mono ?_;rintro e w4 ⟨rfl,rfl⟩);exact⟨rfl,.inr ⟨HN.out,⟨x.Nj,9,by decide,e4.out,by unfold aV;omega,rfl⟩,(R.2.2.2.1.trans H2.1).trans Y.out⟩⟩
 rw[cI C] at b3;have HN:=J2 (show aO ((l.map fun x=>x.name).take j) x.name<0 by rw[hr];omega) (show¬(x.name∈(l.map fun x=>x.name).take j) from fun h=>by have:=cm.2 h;omega);clear hr C;go_wp2_with fail;refine(HA.2 _ H2.2.1).mono ?_;rintro e w3 ⟨rfl,J⟩;have Y:=oH (H2.2.1.trans J);have e5:=oH (H2.2.2.keep J trivial);have e6:=oH (H2.1.trans J);clear J b3;have m0:=Z.out w3 (Y.out) 0;have m1:=Z.out w3 (Y.out) 1;have m2:=Z.out w3 (Y.out) 2;have m3:=Z.out w3 (Y.out) 3;simp only[gc] at m0 m1 m2 m3;go_wp2_with (go_at_call 137;refine(dX _ _ _).mono ?_;rintro e w4 ⟨rfl,rfl⟩);refine(HA.1 _).mono ?_;rintro e w5 ⟨rfl,b7⟩;have b4:((l.map fun x=>x.name).take j).length=j:=by rw[fN,ce];omega
 have c7:=J2 (e5.out.keep b7 trivial) (e6.out.trans b7);clear b7;go_wp2_with (at_mapUpdate;go_loud (refine gN rfl _ _ _ rfl w.heap.size _ rfl c7.1 (by rw[b4];omega) _ rfl (by rw[b4];rfl) (by unfold maxLen;omega) HN.1 ?_;intro w6 c8 c9;have H6:=J2 c8 c9;clear c8 c9));go_roundg (l.length-(j+1))
 ·have e:(l.map fun x=>x.name).take (j+1)=(l.map fun x=>x.name).take j++[x.name]:=by rw[cU,R.2.2.2.2.1];rfl
  refine⟨j+1,by omega,rfl,by go_num,(R.1.trans c7.2.all).grown H6.2 fun b hb=>.inl fun h=>h (by injection hb with hb;exact hb.symm),?_,?_⟩;·rw[e];exact H6.1
  rw[e];exact kB R.2.2.1 HN.2
 omega)
 obtain rfl:j=l.length:=by omega
 rw[oF (by simp)] at hm a7;have R:=J4 a6 hm a7 a8;clear a6 hm a7 a8;go_wp2_with fail;go_ret;have:=R.1.size;have:=H0.2.2.2;exact .inl ⟨R.2.2.1,_,rfl,R.2.1,by omega,by omega,R.2.2.2⟩
theorem ul (S:Nat→Prop)(v:Value)(l:List eS)(w:World)(hv:mJ S w v l)(hl:l.length≤900000):
 Calls prog 163 #[v,.func (.func 164) #[] #[],.func (.func 165) #[] #[]] w (rU (l.map fun x=>x.name) w):=by
 have b7:=eH.la hv;obtain⟨A1,c1,rfl,l1,l2,l3,_⟩:=hv;unfold maxLen at l2;have HV:=oH b7;clear b7;obtain⟨W0,Y⟩:=eQ (w.alloc (.map #[] 0));have b8:cK W0 w.heap.size []:=by rw[Y];exact cK.new w
 have b9:aa All w W0:=by rw[Y];exact kR.alloc _
 have c0:W0.heap.size=w.heap.size+1:=by rw[Y];simp
 have H0:=J4 Y b8 b9 c0;clear Y b8 b9 c0;have c9:=@run_makeMap prog;go_enter func163,ntmps163;go_upto_region 2 with fail;clear c9;rw[←H0.1];go_wp2_with fail;go_loopg [15] l.length (fun g d7 wr=>∃j:Nat,j≤l.length∧g=l.length-j∧d7=.int .i64 j∧aa (fun b=>b≠w.heap.size) W0 wr∧cK wr w.heap.size ((l.map fun x=>x.name).take j)∧((l.map fun x=>x.name).take j).Nodup);·exact⟨0,by omega,by omega,rfl,kR,H0.2.1,by simp⟩
 obtain⟨j,hj,rfl,rfl,Z,hm,a1⟩:=hrel;have a6:aa All w wr:=am (H0.2.2.1.all.trans (Z.mono fun b hb=>by show b≠_;omega));by_cases d8:j<l.length;·(
 obtain⟨x,hx⟩:=eG d8;obtain⟨bb,o,cs,rfl,e5,e6,hc,vb,rfl,d9,e0,e1⟩:=aZ (HV.out wr a6) hx;obtain⟨q1,q3,rfl,_⟩:=d9;have z0:=hc 0 _ rfl;rw[dj] at z0;have z1:=hc 1 _ rfl;have z2:=hc 2 _ rfl;have c2:(l.map fun x=>x.name)[j]? =some x.name:=by rw[cL,hx];rfl
 have e7:=e1;obtain⟨W1,b0⟩:=eQ (wr.alloc (.cells #[.string x.name,.slice q1 x.code.length q3,.int .i64 x.Nj] 229));have c3:aa All wr W1:=by rw[b0];exact kR.alloc _
 have b1:al W1 wr.heap.size 229 #[.string x.name,.slice q1 x.code.length q3,.int .i64 x.Nj]:=by rw[b0];exact ac rfl
 have c4:∀wn,aa All W1 wn→∀i,wn.cell? ⟨wr.heap.size,i,none⟩=(#[.string x.name,.slice q1 x.code.length q3,.int .i64 x.Nj]:Array Value)[i]?:=fun wn hk i=>(b1.kept hk trivial).cell i;have HA:=J2 (fun wn=>Bj x.name q1 x.code.length q3 x.Nj wn) (fun wn (_:aa All W1 wn)=>Bk x.name q1 x.code.length q3 x.Nj wn);have HC:=oH c4;have e2:=oH (show aV x.Nj from e0);clear c4 b1 hc;have R:=J7 Z hm a1 a6 c2 b0 c3;clear Z hm a1 a6 c2 b0 c3;go_upto_region 5 with fail;rw[←R.2.2.2.2.2.1];have g0:=HC.out W1 kR 0;have g1:=HC.out W1 kR 1;have g2:=HC.out W1 kR 2;simp only[gc] at g0 g1 g2;go_wp2_with fail;refine(HA.1 _).mono ?_;rintro e w2 ⟨rfl,b4⟩;have a7:aa All wr w2:=R.2.2.2.2.2.2.trans b4;have c5:aa All W1 w2:=b4;have b5:=R.2.1.keep a7 trivial;have b2:=b5.look (s:=x.name) (by unfold maxLen;omega);have H2:=J3 a7 c5 b5;clear a7 c5 b5 b4;have k0:=HC.out w2 (H2.2.1) 0;have k1:=HC.out w2 (H2.2.1) 1;have k2:=HC.out w2 (H2.2.1) 2;simp only[gc] at k0 k1 k2;obtain⟨r,hr⟩:=eR (aO ((l.map fun x=>x.name).take j) x.name);rw[hr] at b2;by_cases C:0≤r;·rw[Int.max_eq_left C,bL C] at b2;have HN:=oH (fun h:(l.map fun x=>x.name).Nodup=>jR R.2.2.2.2.1 (cm.1 (by rw[hr];exact C)) h);clear hr C;go_wp2_with fail;refine(HA.2 _ H2.2.1).mono ?_;rintro e w3 ⟨rfl,J⟩;have a8:=oH J;clear J;go_wp2_with (go_at_call 137;refine(fP _ _ _).mono ?_;rintro e w4 ⟨rfl,rfl⟩);exact⟨rfl,.inr ⟨HN.out,⟨x.Nj,9,by decide,e2.out,by unfold aV;omega,rfl⟩,(R.2.2.2.1.trans H2.1).trans a8.out⟩⟩
 rw[cI C] at b2;have HN:=J2 (show aO ((l.map fun x=>x.name).take j) x.name<0 by rw[hr];omega) (show¬(x.name∈(l.map fun x=>x.name).take j) from fun h=>by have:=cm.2 h;omega);clear hr C;go_wp2_with fail;refine(HA.2 _ H2.2.1).mono ?_;rintro e w3 ⟨rfl,J⟩;have a8:=oH (H2.2.1.trans J);have e3:=oH (H2.2.2.keep J trivial);have e4:=oH (H2.1.trans J);clear J b2;have m0:=HC.out w3 (a8.out) 0;have m1:=HC.out w3 (a8.out) 1;have m2:=HC.out w3 (a8.out) 2;simp only[gc] at m0 m1 m2;go_wp2_with (go_at_call 137;refine(dX _ _ _).mono ?_;rintro e w4 ⟨rfl,rfl⟩);refine(HA.1 _).mono ?_;rintro e w5 ⟨rfl,b6⟩;have b3:((l.map fun x=>x.name).take j).length=j:=by rw[fN,ce];omega
 have c6:=J2 (e3.out.keep b6 trivial) (e4.out.trans b6);clear b6;go_wp2_with (at_mapUpdate;go_loud (refine gN rfl _ _ _ rfl w.heap.size _ rfl c6.1 (by rw[b3];omega) _ rfl (by rw[b3];rfl) (by unfold maxLen;omega) HN.1 ?_;intro w6 c7 c8;have H6:=J2 c7 c8;clear c7 c8));go_roundg (l.length-(j+1))
 ·have e:(l.map fun x=>x.name).take (j+1)=(l.map fun x=>x.name).take j++[x.name]:=by rw[cU,R.2.2.2.2.1];rfl
  refine⟨j+1,by omega,rfl,by go_num,(R.1.trans c6.2.all).grown H6.2 fun b hb=>.inl fun h=>h (by injection hb with hb;exact hb.symm),?_,?_⟩;·rw[e];exact H6.1
  rw[e];exact kB R.2.2.1 HN.2
 omega)
 obtain rfl:j=l.length:=by omega
 rw[oF (by simp)] at hm a1;have R:=J4 Z hm a1 a6;clear Z hm a1 a6;go_wp2_with fail;go_ret;have:=R.1.size;have:=H0.2.2.2;exact .inl ⟨R.2.2.1,_,rfl,R.2.1,by omega,by omega,R.2.2.2⟩
def dS (m:BitVec 64)(k:Nat):List Nat:=(List.range k).filter fun j=>m.getLsbD j
def Dc (m:BitVec 64)(k:Nat):BitVec 64:=zt (fun j=>decide (k≤j)&&m.getLsbD j) 64
theorem nO (m:BitVec 64)(k j:Nat)(l:j<64):(Dc m k).getLsbD j=(decide (k≤j)&&m.getLsbD j):=by rw[Dc,zu _ _ _ l,bL l];rfl
theorem Mo (m:BitVec 64):Dc m 0=m:=by apply BitVec.eq_of_getLsbD_eq;intro j l;rw[nO _ _ _ l,bL (Nat.zero_le j)];rfl
theorem CJ {x:BitVec 64}{t:Nat}(h:LO x t)(j:Nat)(C:j<64):(x&&&(x-1#64)).getLsbD j=(x.getLsbD j&&decide (j≠t)):=by
 have J:=Cd h;have R:x-1#64= ~~~(-x):=by
  have e:=BitVec.neg_eq_not_add (-x);rw[BitVec.neg_neg] at e;have Y:∀y:BitVec 64,x=y+1#64→x-1#64=y:=by rintro y rfl;exact BitVec.add_sub_cancel y 1#64
  exact Y _ e
 have l:=congrArg (fun y=>y.getLsbD j) J;have Z:(pw t).getLsbD j=decide (j=t):=by(
 rw[pw,BitVec.getLsbD_shiftLeft];by_cases e:j=t;·subst e;simp[C]
 by_cases o:j<t;·simp[o,e]
 have:j-t≠0:=by omega
 simp[o,this,e])
 simp only[BitVec.getLsbD_and,Z] at l;rw[R,BitVec.getLsbD_and,BitVec.getLsbD_not];by_cases e:j=t
 ·subst e
  rw[bL rfl] at l;rw[gE] at l;rw[l.2];simp
 rw[cI e] at l;cases hx:x.getLsbD j with
 |false=>simp
 |true=>
  rw[hx] at l;have h5:(-x).getLsbD j=false:=by simpa using l
  rw[h5];simp[C,e]
theorem FO {m:BitVec 64}{k t:Nat}(h:LO (Dc m k) t):Dc m k&&&(Dc m k-1#64)=Dc m (t+1)∧k≤t∧t<64∧m.getLsbD t=true∧dS m (t+1)=dS m k++[t]:=by
 have Z:=h.1;have R:=h.2.1;rw[nO _ _ _ Z,gE,iH] at R;have l:∀j,k≤j→j<t→m.getLsbD j=false:=by intro j o C;have:=h.2.2 j C;rw[nO _ _ _ (by omega),bL o] at this;simpa using this
 refine⟨?_,R.1,Z,R.2,?_⟩;·(
 apply BitVec.eq_of_getLsbD_eq;intro j C;rw[CJ h j C,nO _ _ _ C,nO _ _ _ C];by_cases o:k≤j;·(
 by_cases Y:j<t;·rw[l j o Y];simp
 by_cases e:j=t
 ·have J:¬t+1≤j:=by omega
  rw[cI J,cI (fun h:j≠t=>h e)];simp
 have J:t+1≤j:=by omega
 simp[o,e,J])
 have J:¬t+1≤j:=by omega
 simp[o,J])
 unfold dS;have e:List.range (t+1)=List.range k++(List.range (t-k)).map (k+·)++[t]:=by rw[List.range_succ];congr 1;have:=List.range_add (n:=k) (m:=t-k);rw[←this];congr 1;omega
 rw[e,mE,mE];have e2:((List.range (t-k)).map (k+·)).filter (fun j=>m.getLsbD j)=[]:=by rw[List.filter_eq_nil_iff];intro a ha;obtain⟨i,hi,rfl⟩:=dr.1 ha;have:=fg.1 hi;rw[l _ (by omega) (by omega)];exact oG
 rw[e2,List.append_nil];simp[R.2]
theorem Jj {m:BitVec 64}{k:Nat}(h:Dc m k=0#64)(Y:k≤64):dS m k=dS m 64:=by
 have l:∀j,k≤j→j<64→m.getLsbD j=false:=by intro j o C;have:=congrArg (fun y=>y.getLsbD j) h;simp only[nO _ _ _ C,bL o,BitVec.getLsbD_zero] at this;simpa using this
 unfold dS;have e:List.range 64=List.range k++(List.range (64-k)).map (k+·):=by have:=List.range_add (n:=k) (m:=64-k);rw[←this];congr 1;omega
 rw[e,mE];have J:((List.range (64-k)).map (k+·)).filter (fun j=>m.getLsbD j)=[]:=by rw[List.filter_eq_nil_iff];intro a R;obtain⟨i,hi,rfl⟩:=dr.1 R;have:=fg.1 hi;rw[l _ (by omega) (by omega)];exact oG
 rw[J,List.append_nil]
theorem ko {m:BitVec 64}{k j:Nat}:j∈dS m k↔j<k∧m.getLsbD j=true:=by unfold dS;rw[List.mem_filter,fg]
theorem xP {m:BitVec 64}{pre:List Nat}{k:Nat}(h:pre++[k]<+:dS m 64):(k<64∧m.getLsbD k=true)∧∀j,j<k→m.getLsbD j=true→j∈pre:=by
 obtain⟨t,o⟩:=h;have C:k∈dS m 64:=by rw[←o];simp
 refine⟨ko.1 C,fun j R hm=>?_⟩;have l:j∈dS m 64:=ko.2 ⟨by have:=(ko.1 C).1;omega,hm⟩;rw[←o,jM,eD] at l;rcases l with h|h;·exact h
 exfalso;have J:(dS m 64).Pairwise (·<·):=List.Pairwise.filter _ List.pairwise_lt_range;rw[←o,jM] at J;have:=(List.pairwise_append.1 J).2.1;simp only[List.cons_append,mF] at h this;rcases fX.1 h with rfl|h;·omega
 have:=(List.pairwise_cons.1 this).1 j h;omega
section
open Go
section
variable {P:Program} {ops:Array Oper} {md:Region.Mode} {S:World→Prop} {T:List Tmp} {F:Tmp→Value→World→Prop} {L:Nat→Option (Value→Prop)} {lp n:Nat}
def sZ (ops:Array Oper):Bool:=ops.all fun o=>match o.op with|.defer _=>false|_=>true
theorem ta (h:sZ ops=true):∀(j:Nat) (o:Oper),ops[j]? =some o→∀c,o.op≠.defer c:=by intro j o C c e;obtain⟨l,rfl⟩:=mV.1 C;have:=(Array.all_eq_true.1 h) j l;simp only[e] at this;cases this
theorem gh {Q:Act→Prop}{Q':Exit→Act→World→Prop}(hm:lk md ops T)(J:∀(j:Nat) (o:Oper),ops[j]? =some o→∀c,o.op≠.defer c)
 (hQ:∀listed a w,listed.size=ops.size→Region.ready md ops listed=[]→S w→eU ops T F listed a w→Q a→Q' .normal a w):∀(l:Nat) (listed:Array Bool) (a:Act) (w:World),listed.size=ops.size→S w→eU ops T F listed a w→
 oZ P md ops S T F L Q l listed a→wpAnyIn (Fence.wide.inRound lp) n P md ops Q' l listed a w
 |0,listed,a,w,hz,hw,C,h=>⟨(h ⟨w,hw,C⟩).1,hQ _ _ _ hz (h ⟨w,hw,C⟩).1 hw C (h ⟨w,hw,C⟩).2⟩
 |l+1,listed,a,w,hz,hw,C,h=>by(
 refine⟨fun h0=>hQ _ _ _ hz h0 hw C ((h ⟨w,hw,C⟩).1 h0),fun i hi=>?_⟩;have R:(listed.setIfInBounds i true).size=ops.size:=by rw[Array.size_setIfInBounds];exact hz
 obtain⟨_,o,Z,_⟩:=mem_ready.1 hi;obtain⟨V,hy,hn⟩:=(h ⟨w,hw,C⟩).2 i hi o Z;have hp:=C.pre hm hi Z;have a1:Oper.semAt (some lp) a.eval o=execOp a.eval o:=Oper.semAt_some lp a.eval o (J i o Z);unfold wpOpIn;simp only[Z];rcases hy with ⟨h1,_,v,rfl,h3⟩|⟨h1,_,h3⟩|⟨h1,rfl,h3⟩;·rw[ap h1];refine⟨fun _ _=>trivial,?_⟩;obtain⟨Y,hd⟩:=h3 w hw hp;show o.uponIn _ n P a _ _ ((Oper.semAt (some lp) a.eval o).run P w);rw[a1,Y];exact gh hm J hQ l _ _ w R hw (C.next Z ⟨hw,fun _ _ _ h=>h,hd⟩) (hn v rfl)
 ·(
 rw[ap h1];refine⟨fun _ _=>trivial,?_⟩;have Y:=h3 w hw hp;show o.uponIn _ n P a _ _ ((Oper.semAt (some lp) a.eval o).run P w);rw[a1];generalize (execOp a.eval o).run P w=r at Y;cases r with
 |ok nx w'=>
  cases nx<;>simp only[kl] at Y<;>simp only[Oper.uponIn]
  case value u=>exact gh hm J hQ l _ _ w' R Y.2.1 (C.next Z Y.2) (hn u Y.1)
  case enter f args=>(refine⟨(fun h=>by cases h),CallsIn.inRound lp (CallsIn.mono (callsIn_wide.2 Y) ?_)⟩;rintro e a6 ⟨u,rfl,hv,hg⟩;exact gh hm J hQ l _ _ a6 R hg.1 (C.next Z hg) (hn u hv))
 |halt x w'=>simp only[kl] at Y)
 rw[ae (by rw[h1];exact oG)];exact⟨fun _ _=>trivial,gh hm J hQ l _ _ w R hw (C.next Z ⟨hw,fun _ _ _ h=>h,fun d hd ht=>absurd ht (h3 d hd)⟩) (hn undef rfl)⟩)
theorem fJ {id:Nat}{Q:Exit→Act→World→Prop}{a:Act}{w:World}{l:List Oper}(S:World→Prop)(T:List Tmp)(F:Tmp→Value→World→Prop)(L:Nat→Option (Value→Prop))(hm:P.follows .mixedOrders=true)(R:Region.lexB .any l.toArray=true)(hT:ns .any l.toArray T=true)(hA:BH .any l.toArray=true)(hD:sZ l.toArray=true)
 (hS:S w.drew) (h:nG P l.toArray S T F L (fun J=>∀j,S j→(∀t∈T,∀v,J.tmps[t]? =some v→F t v j)→Q .normal J j) l 0 a):(Code.region id l.toArray true).wpIn (Fence.wide.inRound lp) n P Q a w:=by
 simp only[Region.lexB,gE] at R;have C:=sU hT;refine wpIn_region_any hm (gh (S:=S) (T:=T) (F:=F) (L:=L) (Q:=fun J=>∀j,S j→(∀t∈T,∀v,J.tmps[t]? =some v→F t v j)→Q .normal J j) C (ta hD) (fun listed J j hz hr Y hf h=>h j Y fun t ht v hv=>?_) _ _ _ _ (by simp) hS (fun k o d Z=>by exfalso;simp only[Array.getD_eq_getD_getElem?,Array.getElem?_replicate] at Z;split at Z<;>simp at Z) ?_)
 ·obtain⟨k,x,hx,hd⟩:=C.2.2 t ht
  exact hf k x t (vO hz hr (BI hA) _ k (cf _) (mV.1 hx).1) hx hd ht v hv
 have:=pd (P:=P) (S:=S) (F:=F) (L:=L) C R.1 l 0 (Array.replicate l.toArray.size false) a (by simp) (by simpa using R.2) h;simpa using this
theorem JA {o:Oper}{a:Act}{w:World}{K J:Act→World→Prop}{Q:Exit→Act→World→Prop}(C:∀c,o.op≠.defer c)(j:∀a w,K a w→J a w)(h:o.wp P a w K Q):o.wpIn (Fence.wide.inRound lp) n P a w J Q:=by
 refine⟨fun _ _=>trivial,?_⟩;show o.uponIn _ n P a _ _ ((Oper.semAt (some lp) a.eval o).run P w);rw[Oper.semAt_some lp a.eval o C];unfold Oper.wp at h;generalize (execOp a.eval o).run P w=r at h;cases r with
 |ok R Y=>
  cases R<;>simp only[Oper.upon] at h<;>simp only[Oper.uponIn]
  case value u=>exact j _ _ h
  case skip=>exact j _ _ h
  case defer d=>exact j _ _ h
  case enter f args=>(
 refine⟨(fun h=>by cases h),CallsIn.inRound lp (CallsIn.mono (callsIn_wide.2 h) ?_)⟩;intro e l he;cases e with
 |returned v=>exact j _ _ he
 |panicked Z=>exact he
 |outgrown=>exact he)
  case row rw args=>(refine⟨(fun h=>by cases h),fun c cs _=>?_⟩;obtain⟨v,l,r,s⟩:=h c cs;exact⟨v,l,j _ _ r,stepsIn_wide.2 s⟩)
 |halt x Y=>cases x<;>simp only[Oper.upon] at h<;>first|exact h|exact h.elim
theorem wu {Q:Exit→Act→World→Prop}(C:∀(j:Nat) (o:Oper),ops[j]? =some o→∀c,o.op≠.defer c)(J:¬LetsOut Q):∀(l:Nat) (listed:Array Bool) (a:Act) (w:World),
 wpAny P md ops Q l listed a w→wpAnyIn (Fence.wide.inRound lp) n P md ops Q l listed a w
 |0,_,_,_,h=>h
 |l+1,listed,a,w,h=>by(
 refine⟨h.1,fun i hi=>?_⟩;have h:=h.2 i hi;unfold wpOp at h;unfold wpOpIn;cases R:ops[i]? with
 |none=>rw[R] at h;exact wu C J l _ _ _ h
 |some o=>
  simp only[R] at h⊢;by_cases hw:Region.wanted o (yielded ops a.tmps)=true
  ·rw[ap hw] at h⊢;rcases h with h|h;·exact JA (C i o R) (fun a w h=>wu C J l _ _ _ h) h
   exact absurd h.2 J
  rw[ae hw] at h⊢;exact⟨fun _ _=>trivial,wu C J l _ _ _ h⟩)
theorem mv {id:Nat}{Q:Exit→Act→World→Prop}{a:Act}{w:World}{l:List Oper}(m:Nat)(hm:P.follows .mixedOrders=true)(hB:Region.lexTailB .any l.toArray m=true)(hD:sZ l.toArray=true)(Z:¬LetsOut Q)
 (h:wpStill P l.toArray {w with drawn:=w.drawn+1} (fun a'=>wpList P l.toArray Q (l.drop m) a' {w with drawn:=w.drawn+1}) (l.take m) a):(Code.region id l.toArray true).wpIn (Fence.wide.inRound lp) n P Q a w:=by
 simp only[Region.lexTailB,gE,iH] at hB;obtain⟨⟨⟨⟨C,hn⟩,hs⟩,hc⟩,J⟩:=hB;have a6:m<l.length:=by simpa using hn
 have o:(l.take m).length=m:=by simp;omega
 have R:(l.drop m).length=l.toArray.size-m:=by simp
 have Y:HeadInv .any l.toArray m (Array.replicate l.toArray.size false):=
  ⟨by simp,fun j oj _ hl=>(by rw[getD_replicate_false] at hl;cases hl),fun t _ ht=>getD_in (by simpa using ht) (getD_replicate_false _ _)⟩
 have H:=wpAnyL_lex (md:=.any) (g:=l.toArray.size-m) C hs hc hn (l.take m) 0 _ a (fun j hj=>by
  have a1:j<m:=by rw[o] at hj;exact hj
  simp[a1]) (by simpa using o) Y (by rw[o];exact J) h
 refine wpIn_region_any hm ?_;have:=wpAny_of_head (Q':=Q) (g:=l.toArray.size-m) (fun listed a' hL=>by have:=wpAny_of_seq (md:=.any) (Q':=Q) (l.drop m) m listed a' {w with drawn:=w.drawn+1} (fun j=>by simp[List.getElem?_drop]) (by rw[R];exact hL.1) hL.2;rwa [R] at this) _ _ _ H;rw[o,show m+(l.toArray.size-m)=l.toArray.size by omega] at this;exact wu (ta hD) Z _ _ _ _ this
end
end
section
open Go.RowKit Go.Shelf
attribute [local go_sem] lh qb xr ju nA nE nB nC ms rq nD wL pD
attribute [local go_sem] Oper.semAt_some
abbrev zD (m:BitVec 64):= {k:Nat//k<64∧m.getLsbD k=true}
def eq (A B:World):Prop:=gz A→gz B
theorem gz.below {w W:World}(h:gz w)(l:Below w.heap.size w W):gz W:=by
 refine⟨fun i hi=>?_,fun i hi=>?_⟩
 ·have j:=h.1 i hi
  exact(l.cell (p:=⟨0,i,none⟩) (jy w _ j)).trans j
 have j:=h.2 i hi;exact(l.cell (p:=⟨1,i,none⟩) (jy w _ j)).trans j
theorem Gb {W:World}{l:Nat}{o R:Obj}(Y:W.heap[l]? =some o)(Z:o.isCells=false):eq W (W.putObj l R):=by
 intro h;have j:∀b i v,W.cell? ⟨b,i,none⟩=some v→b≠l:=by rintro b i v J rfl;unfold World.cell? at J;simp only[Y] at J;cases o<;>first|(simp[Obj.isCells] at Z;done)|(simp at J)
 refine⟨fun i hi=>?_,fun i hi=>?_⟩
 ·have C:=h.1 i hi
  rw[World.cell?_of_block (World.putObj_heap_other (fun e=>j _ _ _ C e))];exact C
 have C:=h.2 i hi;rw[World.cell?_of_block (World.putObj_heap_other (fun e=>j _ _ _ C e))];exact C
theorem wk (m:BitVec 64)(w:World):Calls prog 125 #[U m] w fun e j=>e=.returned (.func (.func 151) #[] #[.pointer (some ⟨w.heap.size,0,none⟩)])∧j=w.alloc (.cells #[U m] 90):=by have l:∀(fn:Fn) (first cap:Array Value) (w:World),(Instr.makeFunc fn first cap).run prog w=.ok (.func fn first cap) w:=fun _ _ _ _=>rfl;go_enter func125,ntmps125;go_wp2;go_ret;exact⟨rfl,rfl⟩
theorem zM (x:BitVec 64)(h:x≠0#64):(x&&&(x-1#64)).toNat<x.toNat:=by
 have j:x.toNat≠0:=fun e=>h (BitVec.eq_of_toNat_eq (by simpa using e));have l:(x&&&(x-1#64)).toNat≤(x-1#64).toNat:=by rw[BitVec.toNat_and];exact Nat.and_le_right
 have o:(x-1#64).toNat=x.toNat-1:=by rw[BitVec.toNat_sub];have:=x.isLt;simp;omega
 omega
theorem EY (m:BitVec 64)(k:Nat):(dS m k).length≤k:=by unfold dS;exact fR (List.length_filter_le _ _) (by simp)
theorem EZ {m:BitVec 64}{t:Nat}(h:t<64):dS m (t+1)<+:dS m 64:=by
 have e:List.range 64=List.range (t+1)++(List.range (64-(t+1))).map (t+1+·):=by rw[←List.range_add];congr 1;omega
 unfold dS;rw[e,mE];exact List.prefix_append _ _
theorem qm (n:Nat)(hn:1≤n)(m:BitVec 64)(Bn:Nat)(w:World)(hl:gz w)(hc:al w Bn 90 #[U m]):
 SeqStopsK Fence.wide n prog 151 #[.pointer (some ⟨Bn,0,none⟩)] (fun x:zD m=>#[Value.int .i64 (x.1:Nat)]) eq (fun xs=>xs.map Subtype.val=dS m 64) (fun pre=>pre.map Subtype.val<+:dS m 64) 64 w:=fun l J Jx W hW _ _ hY h0=>by
 have b2:W.cell? ⟨Bn,0,none⟩=some (U m):=(hW.cell (p:=⟨Bn,0,none⟩) hc.lt).trans (hc.cell 0);have a1:=hl.below hW;have HL:=J2 a1 hY;clear a1 hY hW hl hc;refine callsIn_of_wp func151 rfl trivial ?_ rfl;simp only[ntmps151,List.size_toArray,kI,List.length_nil,Nat.reduceAdd,Nat.reduceSub,Array.replicate_succ,Array.replicate_zero,List.push_toArray,List.append_toArray,mF,List.cons_append];gi_wp2
 gi_loopw [3] (fun r wr=>∃(k:Nat) (pre:List (zD m)),k≤64∧r=U (Dc m k)∧pre.map Subtype.val=dS m k∧J pre wr∧gz wr) (fun r _=>(intOf r).toNat)
 ·exact⟨0,[],by omega,by rw[Mo],rfl,h0,HL.1⟩
 obtain⟨k,pre,hk,rfl,j,hJ,Z⟩:=hrel;by_cases hz:Dc m k=0#64
 ·have b3:(Dc m k !=0#64)=false:=by simp[hz]
  have HP:=oH (show pre.map Subtype.val=dS m 64 by rw[j,Jj hz hk]);clear hz j;gi_wp2
  go_end0
  exact⟨⟨_,rfl⟩,.inl ⟨pre,HP.out,hJ⟩⟩
 obtain⟨t,ht⟩:=Lf hz;obtain⟨a6,b7,o,R,a7⟩:=FO ht;have a8:pre.length<64:=by have:=EY m k;rw[←j,ce] at this;omega
 obtain⟨fn,tmps,assign,body,hy,hR⟩:=HL.2 pre ⟨t,o,R⟩ wr hJ a8;dsimp only at hy;have b0:=LJ (Dc m k) t wr Z ht;have b3:(Dc m k !=0#64)=true:=by simpa using hz
 have Y:=zM _ hz;have C:(pre++[(⟨t,o,R⟩:zD m)]).map Subtype.val=dS m (t+1):=by rw[a7,ic,j];rfl
 have HT:=J5 b0 a6 Y C Z;clear b0 a6 Y C Z hz ht a7 j;gi_wp2_with (refine⟨trivial,?_⟩;gi_at_call 152;refine(callsIn_wide.2 HT.1).mono ?_;rintro e w' ⟨rfl,rfl⟩);gi_wp2;refine hR.mono ?_;rintro e W3 (⟨rfl,b4,b5⟩|⟨rfl,b1⟩)
 ·have b6:=b5 HT.2.2.2.2;gi_wp2
  go_roundw
  case rel=>exact⟨t+1,pre++[⟨t,o,R⟩],by omega,by rw[HT.2.1],HT.2.2.2.1,b4,b6⟩
  case measure=>exact HT.2.2.1
 gi_wp2;refine bodyPost_ret (results_none rfl _ _ _) rfl ?_;exact⟨⟨_,rfl⟩,.inr ⟨pre++[(⟨t,o,R⟩:zD m)],by rw[HT.2.2.2.1];exact EZ o,b1⟩⟩
end
end Go.Proofs.YtncdbjponknakaaGreatDoor
