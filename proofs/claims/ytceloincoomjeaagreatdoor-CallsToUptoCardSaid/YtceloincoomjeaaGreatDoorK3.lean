/- Part 4 of the proof of CallsTo (its last part says what is proved). No condition. -/
import Derived.Test.YtceloincoomjeaaGreatDoorK2
namespace Go.Proofs.YtceloincoomjeaaGreatDoor
set_option maxRecDepth 100000
set_option maxHeartbeats 8000000
open Go.RowKit Go.Proofs.Tryz
theorem At (s:ByteArray)(w:World):Calls prog 131 #[.string s] w fun e j=>e=.returned (.string s)∧w=j:=by go_enter func131,ntmps131;go_wp2;go_ret;exact⟨rfl,rfl⟩
theorem zO (s:ByteArray)(n:Int)(w:World):Calls prog 135 #[.agg #[.string s,.int .i64 n]] w fun e l=>e=.returned (.string s)∧aa All w l:=by have j:=fun o=>(aa.refl All w).alloc o;have C:=oH j;clear j;go_enter func135,ntmps135;go_wp2;go_ret;exact⟨rfl,C.out _⟩
theorem Eb (x s:ByteArray)(g1 g2:Nat)(w:World)(j:al w g1 187 #[.func (.func 131) #[] #[]])(l:al w g2 9 #[.string s]):
 Calls prog 170 #[.string x,.pointer (some ⟨g1,0,none⟩),.pointer (some ⟨g2,0,none⟩)] w fun e o=>e=.returned (.bool (x.toList==s.toList))∧aa All w o:=by
 have C:=j.cell 0;have I:=l.cell 0;simp only[gc] at C I;clear j l;go_enter func170,ntmps170;go_wp2_with fail;go_quiet ((go_at_call 131;exact Calls.quiet_of_same ((At _ _).mono fun _ _ h=>⟨h.1,h.2.symm⟩)));go_wp2;go_ret;exact⟨rfl,kR.drewN _⟩
theorem Ea (x:ByteArray×Int)(s:ByteArray)(g1 g2:Nat)(w:World)(C:al w g1 189 #[.func (.func 135) #[] #[]])(I:al w g2 9 #[.string s]):
 Calls prog 174 #[.agg #[.string x.1,.int .i64 x.2],.pointer (some ⟨g1,0,none⟩),.pointer (some ⟨g2,0,none⟩)] w fun e w'=>e=.returned (.bool (x.1.toList==s.toList))∧aa All w w':=by
 have J:∀wn,aa All (w.alloc (.cells #[.string x.1,.int .i64 x.2] 138)) wn→wn.cell? ⟨g1,0,none⟩=some (.func (.func 135) #[] #[])∧wn.cell? ⟨g2,0,none⟩=some (.string s)∧
  wn.cell? ⟨w.heap.size,0,none⟩=some (.string x.1)∧wn.cell? ⟨w.heap.size,1,none⟩=some (.int .i64 x.2):=fun wn j=>
  ⟨((C.alloc _).kept j trivial).cell 0,((I.alloc _).kept j trivial).cell 0,((al.new _ _ _).kept j trivial).cell 0,((al.new _ _ _).kept j trivial).cell 1⟩
 have R:=oH J;clear J C I;go_enter func174,ntmps174;go_wp2_with fail;refine eK (aa All (w.alloc (.cells #[.string x.1,.int .i64 x.2] 138))) [] (fun _ _ _=>True) (fun k=>if k=2 then some (fun v=>v=.string x.1) else none) (by kernel_rfl) (by kernel_rfl) (by kernel_rfl) (by kernel_rfl) kR.drew ?_;iterate 2 (refine bG (by rfl) (by rfl) (by intro d l;cases l;decide) (fun wn j Y=>by(obtain⟨e1,Z,e3,e4⟩:=R.out wn j);go_simp;with_reducible rfl) ?_;simp only[PS])
 refine gi (by rfl) (by rfl) (fun wn j Y=>?_) ?_;·go_simp;simp only[kl];refine(zO _ _ _).mono ?_;rintro Z wq ⟨rfl,o⟩;exact⟨_,rfl,rfl,j.trans o,fun _ _ _ _=>trivial,fun _ _ _=>trivial⟩
 rintro v rfl;simp only[PS];iterate 3 (refine bG (by rfl) (by rfl) (by intro d l;cases l;decide) (fun wn j Y=>by(obtain⟨e1,Z,e3,e4⟩:=R.out wn j);go_simp;with_reducible rfl) ?_;simp only[PS])
 refine dQ fun wn j _=>?_;have HK:=oH ((kR.alloc _).trans j);clear j;go_wp2;go_ret;exact⟨rfl,HK.out⟩
theorem FQ (S:Nat→Prop)(v:Value)(l:List ByteArray)(p:ByteArray→Bool)(p1 p2:Value)(w:World)(hv:gB S w v l)
 (hp:∀x wn,aa All w wn→Calls prog 170 #[.string x,p1,p2] wn fun e Y=>e=.returned (.bool (p x))∧aa All wn Y):
 Calls prog 169 #[v,.func (.func 170) #[] #[p1,p2]] w fun e Y=>e=.returned (.int .i64 (gJ p l))∧aa All w Y:=by
 obtain⟨a,cap,rfl,h1,h2,_,h⟩:=hv;unfold maxLen at h2;have H:=J2 h hp;clear h hp;go_enter func169,ntmps169;go_wp2;go_loopg [8] l.length (fun g i wr=>∃k:Nat,k≤l.length∧g=l.length-k∧i=.int .i64 k∧aa All w wr∧∀y∈l.take k,p y=false);·exact⟨0,by omega,by omega,rfl,kR,by simp⟩
 obtain⟨k,hk,rfl,rfl,o,J⟩:=hrel;have R:=J2 o J;by_cases a1:k<l.length
 ·obtain⟨x,hx⟩:=eG a1;obtain⟨b,off,c,rfl,hs,hc,rfl⟩:=H.1 k x hx;have hd:=o.cell (p:=⟨b,off+k,none⟩) trivial hc;have j:=H.2 x wr o;have HX:=oH hx;clear hc o J hx;cases C:p x with
  |true=>rw[C] at j;have Z:=J2 j C;clear j C;go_wp2_with fail;refine Z.1.mono ?_;rintro e Y ⟨rfl,I⟩;have HK:=oH I;clear I;go_wp2_with fail;go_ret;exact⟨by rw[lL HX.out Z.2 R.2];rfl,R.1.trans HK.out⟩
  |false=>
   rw[C] at j;have Z:=J2 j C;clear j C;go_wp2_with fail;refine Z.1.mono ?_;rintro e Y ⟨rfl,I⟩;have HK:=oH I;clear I;go_wp2_with fail;go_roundg (l.length-(k+1));·exact⟨k+1,by omega,rfl,by go_num,R.1.trans HK.out,pP HX.out Z.2 R.2⟩
   omega
 obtain rfl:k=l.length:=by omega
 clear o J;go_wp2_with fail;go_ret;exact⟨by rw[lM (by have:=R.2;rwa [dZ] at this)];rfl,R.1⟩
theorem FP (S:Nat→Prop)(v:Value)(l:List (ByteArray×Int))(p:ByteArray×Int→Bool)(p1 p2:Value)(w:World)(hv:kh S w v l)
 (hp:∀x wn,aa All w wn→Calls prog 174 #[.agg #[.string x.1,.int .i64 x.2],p1,p2] wn fun e Y=>e=.returned (.bool (p x))∧aa All wn Y):
 Calls prog 173 #[v,.func (.func 174) #[] #[p1,p2]] w fun e Y=>e=.returned (.int .i64 (gJ p l))∧aa All w Y:=by
 obtain⟨a,cap,rfl,h1,h2,_,h⟩:=hv;unfold maxLen at h2;have H:=J2 h hp;clear h hp;go_enter func173,ntmps173;go_wp2;go_loopg [8] l.length (fun g i wr=>∃k:Nat,k≤l.length∧g=l.length-k∧i=.int .i64 k∧aa All w wr∧∀y∈l.take k,p y=false);·exact⟨0,by omega,by omega,rfl,kR,by simp⟩
 obtain⟨k,hk,rfl,rfl,j,J⟩:=hrel;have R:=J2 j J;by_cases a1:k<l.length
 ·obtain⟨x,hx⟩:=eG a1;obtain⟨b,off,cs,rfl,hs,_,hc,rfl,_⟩:=H.1 k x hx;have hd:=j.cell (p:=⟨b,off+k*2,none⟩) trivial (hc 0 _ rfl);have a6:=j.cell (p:=⟨b,off+k*2+1,none⟩) trivial (hc 1 _ rfl);have o:=H.2 x wr j;have HX:=oH hx;clear hc j J hx;cases C:p x with
  |true=>rw[C] at o;have Z:=J2 o C;clear o C;go_wp2_with fail;refine Z.1.mono ?_;rintro e Y ⟨rfl,I⟩;have HK:=oH I;clear I;go_wp2_with fail;go_ret;exact⟨by rw[lL HX.out Z.2 R.2];rfl,R.1.trans HK.out⟩
  |false=>
   rw[C] at o;have Z:=J2 o C;clear o C;go_wp2_with fail;refine Z.1.mono ?_;rintro e Y ⟨rfl,I⟩;have HK:=oH I;clear I;go_wp2_with fail;go_roundg (l.length-(k+1));·exact⟨k+1,by omega,rfl,by go_num,R.1.trans HK.out,pP HX.out Z.2 R.2⟩
   omega
 obtain rfl:k=l.length:=by omega
 clear j J;go_wp2_with fail;go_ret;exact⟨by rw[lM (by have:=R.2;rwa [dZ] at this)];rfl,R.1⟩
theorem CV (S:Nat→Prop)(v:Value)(l:List ByteArray)(s:ByteArray)(w:World)(C:gB S w v l):
 Calls prog 130 #[v,.func (.func 131) #[] #[],.string s] w fun e I=>e=.returned (.tuple #[.int .i64 (max (gJ (fun x=>x.toList==s.toList) l) 0),.bool (decide (0≤gJ (fun x=>x.toList==s.toList) l))])∧aa All w I:=by
 have j:=FQ S v l (fun x=>x.toList==s.toList) (.pointer (some ⟨w.heap.size,0,none⟩)) (.pointer (some ⟨w.heap.size+1,0,none⟩)) ((w.alloc (.cells #[.func (.func 131) #[] #[]] 187)).alloc (.cells #[.string s] 9))
  (ax.keep (((aa.refl All w).alloc _).alloc _).all C) (fun x wn o=>Eb x s w.heap.size (w.heap.size+1) wn (((al.new _ _ _).alloc _).kept o trivial) ((ac (by simp)).kept o trivial))
 have R:=kT (fun x:ByteArray=>x.toList==s.toList) l;have J:l.length≤140737488355328:=by obtain⟨a,cap,_,_,_,h,_⟩:=C;omega
 have Y:=oH j;clear j C;generalize gJ (fun x:ByteArray=>x.toList==s.toList) l=r at*;go_enter func130,ntmps130;go_wp2_with fail;refine Y.out.mono ?_;rintro e I ⟨rfl,o⟩;have Z:=oH ((((aa.refl All w).alloc _).alloc _).trans o);clear o;go_wp2_with fail
 all_goals
  go_ret2;exact⟨by first|(rw[Int.max_eq_right (by omega)];rfl)|(rw[Int.max_eq_left (by omega)];rfl),Z.out⟩
theorem qt (S:Nat→Prop)(v:Value)(l:List (ByteArray×Int))(s:ByteArray)(w:World)(C:kh S w v l):
 Calls prog 134 #[v,.func (.func 135) #[] #[],.string s] w fun e I=>e=.returned (.tuple #[.int .i64 (max (gJ (fun x=>x.1.toList==s.toList) l) 0),.bool (decide (0≤gJ (fun x=>x.1.toList==s.toList) l))])∧aa All w I:=by
 have j:=FP S v l (fun x=>x.1.toList==s.toList) (.pointer (some ⟨w.heap.size,0,none⟩)) (.pointer (some ⟨w.heap.size+1,0,none⟩)) ((w.alloc (.cells #[.func (.func 135) #[] #[]] 189)).alloc (.cells #[.string s] 9))
  (aX.keep (((aa.refl All w).alloc _).alloc _).all C) (fun x wn o=>Ea x s w.heap.size (w.heap.size+1) wn (((al.new _ _ _).alloc _).kept o trivial) ((ac (by simp)).kept o trivial))
 have R:=kT (fun x:ByteArray×Int=>x.1.toList==s.toList) l;have J:l.length≤140737488355328:=by obtain⟨a,cap,_,_,_,h,_⟩:=C;omega
 have Y:=oH j;clear j C;generalize gJ (fun x:ByteArray×Int=>x.1.toList==s.toList) l=r at*;go_enter func134,ntmps134;go_wp2_with fail;refine Y.out.mono ?_;rintro e I ⟨rfl,o⟩;have Z:=oH ((((aa.refl All w).alloc _).alloc _).trans o);clear o;go_wp2_with fail
 all_goals
  go_ret2;exact⟨by first|(rw[Int.max_eq_right (by omega)];rfl)|(rw[Int.max_eq_left (by omega)];rfl),Z.out⟩
def eZ (p:aH)(s:ByteArray):Int:=gJ (fun x=>x.toList==s.toList) p.MZ
def fD (l:List (ByteArray×Int))(s:ByteArray):Int:=gJ (fun x=>x.1.toList==s.toList) l
abbrev lH (r:Int):Value:=.tuple #[.int .i64 (max r 0),.bool (decide (0≤r))]
theorem qB (S:Nat→Prop)(v:Value)(p:aH)(s:ByteArray)(w:World)(J:dJ S w v p):
 Calls prog 99 #[v,.string s] w fun e l=>e=.returned (lH (eZ p s))∧aa All w l:=by
 obtain⟨a,b,c,d,rfl,C,_⟩:=J;have j:=fun o=>CV S a p.MZ s (w.alloc o) (ax.keep ((aa.refl All w).alloc _).all C);have R:=oH j;have Y:=oH fun o=>(aa.refl All w).alloc o;clear j C;unfold eZ;generalize gJ (fun x:ByteArray=>x.toList==s.toList) p.MZ=r at*;go_enter func99,ntmps99;go_wp2_with (go_at_call 130;refine(R.out _).mono ?_;rintro e l ⟨rfl,I⟩;have Z:=oH I;clear I);go_ret2;exact⟨rfl,(Y.out _).trans Z.out⟩
theorem Dh (S:Nat→Prop)(v:Value)(p:aH)(s:ByteArray)(w:World)(J:dJ S w v p):
 Calls prog 195 #[v,.string s] w fun e l=>e=.returned (lH (fD p.Nb s))∧aa All w l:=by
 obtain⟨a,b,c,d,rfl,_,_,C,_⟩:=J;have j:=fun o=>qt S c p.Nb s (w.alloc o) (aX.keep ((aa.refl All w).alloc _).all C);have R:=oH j;have Y:=oH fun o=>(aa.refl All w).alloc o;clear j C;unfold fD;generalize gJ (fun x:ByteArray×Int=>x.1.toList==s.toList) p.Nb=r at*;go_enter func195,ntmps195;go_wp2_with (go_at_call 134;refine(R.out _).mono ?_;rintro e l ⟨rfl,I⟩;have Z:=oH I;clear I);go_ret2;exact⟨rfl,(Y.out _).trans Z.out⟩
theorem AJ (S:Nat→Prop)(v:Value)(p:aH)(s:ByteArray)(w:World)(J:dJ S w v p):
 Calls prog 196 #[v,.string s] w fun e l=>e=.returned (lH (fD p.Na s))∧aa All w l:=by
 obtain⟨a,b,c,d,rfl,_,_,_,C,_⟩:=J;have j:=fun o=>qt S d p.Na s (w.alloc o) (aX.keep ((aa.refl All w).alloc _).all C);have R:=oH j;have Y:=oH fun o=>(aa.refl All w).alloc o;clear j C;unfold fD;generalize gJ (fun x:ByteArray×Int=>x.1.toList==s.toList) p.Na=r at*;go_enter func196,ntmps196;go_wp2_with (go_at_call 134;refine(R.out _).mono ?_;rintro e l ⟨rfl,I⟩;have Z:=oH I;clear I);go_ret2;exact⟨rfl,(Y.out _).trans Z.out⟩
def aB (s:ByteArray):Bool:=dW s&&!jv s
theorem vK (s:ByteArray)(w:World):Calls prog 100 #[.string s] w fun e I=>e=.returned (.bool (aB s))∧aa All w I:=by
 have j:=yL s w;have hw:=fun w=>zC s w;unfold aB;cases h:dW s with
 |true=>rw[h] at j;have o:=J2 j hw;clear j hw h;generalize jv s=b at*;go_enter func100,ntmps100;go_wp2_with (first|(go_at_call 132;refine o.1.mono ?_;rintro e J ⟨rfl,l⟩;have C:=oH l;clear l)|(go_at_call 133;refine(o.2 _).mono ?_;rintro e I ⟨rfl,rfl⟩));go_ret;exact⟨by simp,C.out⟩
 |false=>rw[h] at j;have o:=oH j;clear j hw h;go_enter func100,ntmps100;go_wp2_with (go_at_call 132;refine o.out.mono ?_;rintro e J ⟨rfl,l⟩;have C:=oH l;clear l);go_ret;exact⟨rfl,C.out⟩
noncomputable def pB (P:Prop):Bool:=@decide P (Classical.propDecidable P)
theorem av {P:Prop}(h:P):pB P=true:=by unfold pB;exact @bL P (Classical.propDecidable P) h
theorem au {P:Prop}(h:¬P):pB P=false:=by unfold pB;exact @cI P (Classical.propDecidable P) h
def lj (p:aH)(l:List (ByteArray×Int))(i:Nat)(x:ByteArray×Int):Prop:=aB x.1=true∧fD l x.1=i∧0≤x.2∧x.2<p.MZ.length
def cE (p:aH)(l:List (ByteArray×Int)):Prop:=l.length≤32∧∀(i:Nat) x,l[i]? =some x→lj p l i x
theorem sq {l:List (ByteArray×Int)}{k:Nat}{x:ByteArray×Int}(h:l[k]? =some x):0≤fD l x.1:=by unfold fD gJ;have:l.any (fun y=>y.1.toList==x.1.toList)=true:=mW.2 ⟨x,mG h,by simp⟩;rw[ap this];omega
theorem sn {p:aH}{l:List (ByteArray×Int)}{k:Nat}{x:ByteArray×Int}(o:l[k]? =some x)(h:∀(i:Nat) y,i<k→l[i]? =some y→lj p l i y)(C:lj p l k x):∀(i:Nat) y,i<k+1→l[i]? =some y→lj p l i y:=by
 intro i y hi j;by_cases e:i=k;·subst e;rw[o] at j;cases j;exact C
 exact h i y (by omega) j
theorem qU (S T:Nat→Prop)(v vl:Value)(p:aH)(l:List (ByteArray×Int))(w:World)(hv:dJ S w v p)(hl:kh T w vl l):
 Calls prog 101 #[v,vl] w fun e w'=>e=.returned (.bool (pB (cE p l)))∧aa All w w':=by
 obtain⟨a,b,c,d,rfl,h1,_⟩:=hv;obtain⟨a1,Y,rfl,k1,k2,k3,_⟩:=h1;have b9:=hl;obtain⟨A,cap,rfl,g1,g2,g3,b0⟩:=hl;unfold maxLen at g2 k2;have HL:=J2 b9 b0;have HK:=oH fun o=>(aa.refl All w).alloc o;clear b9 b0;by_cases c8:32<l.length
 ·have hd:decide ((32:Int)<l.length)=true:=by simp;omega
  have hr:pB (cE p l)=false:=au fun h=>by have:=h.1;omega
  rw[hr];go_enter func101,ntmps101;go_wp2;go_ret;exact⟨rfl,HK.out _⟩
 have hd:decide ((32:Int)<l.length)=false:=by simp;omega
 have c0:=fun wn (hk:aa All (w.alloc (.cells #[.slice a1 p.MZ.length Y,b,c,d,.int .i64 p.Nc] 26)) wn)=>((al.new w 26 #[.slice a1 p.MZ.length Y,b,c,d,.int .i64 p.Nc]).kept hk trivial).cell 0;have HB:=oH c0;clear c0;go_enter func101,ntmps101;go_wp2;go_loopg [14] l.length (fun g i wr=>∃k:Nat,k≤l.length∧g=l.length-k∧i=.int .i64 k∧aa All (w.alloc (.cells #[.slice a1 p.MZ.length Y,b,c,d,.int .i64 p.Nc] 26)) wr∧∀(i:Nat) y,i<k→l[i]? =some y→lj p l i y);·exact⟨0,by omega,by omega,rfl,kR,fun i y hi=>by omega⟩
 obtain⟨k,hk,rfl,rfl,R,b6⟩:=hrel;by_cases c3:k<l.length;·(
 obtain⟨x,hx⟩:=eG c3;obtain⟨bb,off,cs,rfl,hs,_,hc,rfl,c1⟩:=HL.2 k x hx;have b7:=(HK.out (.cells #[.slice a1 p.MZ.length Y,b,c,d,.int .i64 p.Nc] 26)).trans R;have c9:=b7.cell (p:=⟨bb,off+k*2,none⟩) trivial (hc 0 _ rfl);have d7:=b7.cell (p:=⟨bb,off+k*2+1,none⟩) trivial (hc 1 _ rfl);have b1:=fun wn (hk:aa All w wn)=>qt _ _ l x.1 wn (aX.keep hk.all HL.1);have b2:=fun wn=>vK x.1 wn;have b3:=sq hx;have b8:¬lj p l k x→pB (cE p l)=false:=fun h=>au fun h'=>h (h'.2 k x hx);have a6:lj p l k x↔aB x.1=true∧fD l x.1=k∧0≤x.2∧x.2<p.MZ.length:=Iff.rfl;have b4:=sn hx b6;obtain⟨Z,x2⟩:=x;simp only at*;have c2:∀wn,aa All w wn→Calls prog 134 #[.slice (some ⟨bb,off,none⟩) l.length cap,.func (.func 135) #[] #[],.string Z] wn fun e w'=>e=.returned (.tuple #[.int .i64 (fD l Z),.bool true])∧aa All wn w':=fun wn hk=>(b1 wn hk).mono fun e w' h=>⟨h.1.trans (by rw[show gJ (fun x=>x.1.toList==Z.toList) l=fD l Z from rfl,Int.max_eq_left b3,bL b3]),h.2⟩;have c4:=kT (fun x:ByteArray×Int=>x.1.toList==Z.toList) l;rw[show gJ (fun x=>x.1.toList==Z.toList) l=fD l Z from rfl] at c4;have HC:=J5 c2 b2 b8 b4 R;have HW:=oH b7;obtain⟨w1,w2⟩:=rs c1;clear b1 b2 b8 b4 b6 c2 R b7 c1 hc hx;generalize aB Z=nm at*;generalize fD l Z=r at*;have j:aa All (w.alloc (.cells #[.slice a1 p.MZ.length Y,b,c,d,.int .i64 p.Nc] 26)) (wr.alloc (.cells #[.string Z,.int .i64 x2] 138)):=HC.2.2.2.2.alloc _;have b5:=oH j;clear j;cases nm with
 |false=>
  have HR:=oH (HC.2.2.1 fun h=>by rw[a6] at h;exact Bool.noConfusion h.1)
  go_wp2_with (first
   |(go_at_call 134
     refine(HC.1 _ (HW.out.alloc _)).mono ?_;rintro e wa ⟨rfl,C⟩;have I:=(al.new wr 138 #[.string Z,.int .i64 x2]).kept C trivial;have a7:=I.cell 0;simp only[gc] at a7;have HA:=J2 C I;clear C I)
   |(go_at_call 100
     refine(HC.2.1 _).mono ?_;rintro e wb ⟨rfl,j⟩;have J:=HA.2.kept j trivial;have a8:=J.cell 1;simp only[gc] at a8;have H3:=oH ((b5.out.trans HA.1).trans j);have cp:=HB.out _ H3.out;simp only[gc] at cp;have H2:=oH (((HW.out.alloc (.cells #[.string Z,.int .i64 x2] 138)).trans HA.1).trans j);clear j J))
  go_ret;exact⟨by rw[HR.out];rfl,H2.out⟩
 |true=>
  by_cases e1:r=(k:Int);·(
 have c5:(r !=(k:Int))=false:=by simpa using e1
 by_cases e2:x2<0;·(
 have c6:decide (x2<0)=true:=by simpa using e2
 have HR:=oH (HC.2.2.1 fun h=>by rw[a6] at h;omega);have HE:=oH e1;clear e1 a6
 go_wp2_with (first
  |(go_at_call 134
    refine(HC.1 _ (HW.out.alloc _)).mono ?_;rintro e wa ⟨rfl,C⟩;have I:=(al.new wr 138 #[.string Z,.int .i64 x2]).kept C trivial;have a7:=I.cell 0;simp only[gc] at a7;have HA:=J2 C I;clear C I)
  |(go_at_call 100
    refine(HC.2.1 _).mono ?_;rintro e wb ⟨rfl,j⟩;have J:=HA.2.kept j trivial;have a8:=J.cell 1;simp only[gc] at a8;have H3:=oH ((b5.out.trans HA.1).trans j);have cp:=HB.out _ H3.out;simp only[gc] at cp;have H2:=oH (((HW.out.alloc (.cells #[.string Z,.int .i64 x2] 138)).trans HA.1).trans j);clear j J))
 go_ret;exact⟨by rw[HR.out];rfl,H2.out⟩)
 have c6:decide (x2<0)=false:=by simpa using e2
 by_cases e3:(p.MZ.length:Int)≤x2;·(
 have c7:decide ((p.MZ.length:Int)≤x2)=true:=by simpa using e3
 have HR:=oH (HC.2.2.1 fun h=>by rw[a6] at h;omega);have HE:=oH e1;clear e1 a6
 go_wp2_with (first
  |(go_at_call 134
    refine(HC.1 _ (HW.out.alloc _)).mono ?_;rintro e wa ⟨rfl,C⟩;have I:=(al.new wr 138 #[.string Z,.int .i64 x2]).kept C trivial;have a7:=I.cell 0;simp only[gc] at a7;have HA:=J2 C I;clear C I)
  |(go_at_call 100
    refine(HC.2.1 _).mono ?_;rintro e wb ⟨rfl,j⟩;have J:=HA.2.kept j trivial;have a8:=J.cell 1;simp only[gc] at a8;have H3:=oH ((b5.out.trans HA.1).trans j);have cp:=HB.out _ H3.out;simp only[gc] at cp;have H2:=oH (((HW.out.alloc (.cells #[.string Z,.int .i64 x2] 138)).trans HA.1).trans j);clear j J))
 go_ret;exact⟨by rw[HR.out];rfl,H2.out⟩)
 have c7:decide ((p.MZ.length:Int)≤x2)=false:=by simpa using e3
 have HR:=oH (HC.2.2.2.1 (a6.2 ⟨rfl,e1,by omega,by omega⟩));have HE:=oH e1;clear e1 a6
 go_wp2_with (first
  |(go_at_call 134
    refine(HC.1 _ (HW.out.alloc _)).mono ?_;rintro e wa ⟨rfl,C⟩;have I:=(al.new wr 138 #[.string Z,.int .i64 x2]).kept C trivial;have a7:=I.cell 0;simp only[gc] at a7;have HA:=J2 C I;clear C I)
  |(go_at_call 100
    refine(HC.2.1 _).mono ?_;rintro e wb ⟨rfl,j⟩;have J:=HA.2.kept j trivial;have a8:=J.cell 1;simp only[gc] at a8;have H3:=oH ((b5.out.trans HA.1).trans j);have cp:=HB.out _ H3.out;simp only[gc] at cp;have H2:=oH (((HW.out.alloc (.cells #[.string Z,.int .i64 x2] 138)).trans HA.1).trans j);clear j J))
 go_roundg (l.length-(k+1));·exact⟨k+1,by omega,rfl,by go_num,H3.out,HR.out⟩
 omega)
  have c5:(r !=(k:Int))=true:=by simpa using e1
  have HR:=oH (HC.2.2.1 fun h=>by rw[a6] at h;exact e1 h.2.1);clear a6
  go_wp2_with (first
   |(go_at_call 134
     refine(HC.1 _ (HW.out.alloc _)).mono ?_;rintro e wa ⟨rfl,C⟩;have I:=(al.new wr 138 #[.string Z,.int .i64 x2]).kept C trivial;have a7:=I.cell 0;simp only[gc] at a7;have HA:=J2 C I;clear C I)
   |(go_at_call 100
     refine(HC.2.1 _).mono ?_;rintro e wb ⟨rfl,j⟩;have J:=HA.2.kept j trivial;have a8:=J.cell 1;simp only[gc] at a8;have H3:=oH ((b5.out.trans HA.1).trans j);have cp:=HB.out _ H3.out;simp only[gc] at cp;have H2:=oH (((HW.out.alloc (.cells #[.string Z,.int .i64 x2] 138)).trans HA.1).trans j);clear j J))
  go_ret;exact⟨by rw[HR.out];rfl,H2.out⟩)
 obtain rfl:k=l.length:=by omega
 have HR:=oH (av (P:=cE p l) ⟨by omega,fun i y hy=>b6 i y (by obtain⟨h,_⟩:=lS.1 hy;exact h) hy⟩);have HW:=oH ((HK.out (.cells #[.slice a1 p.MZ.length Y,b,c,d,.int .i64 p.Nc] 26)).trans R);clear b6 R;go_wp2;go_ret;exact⟨by rw[HR.out];rfl,HW.out⟩
section
theorem jw (n:Int):IntKind.u64.wrap n=n%18446744073709551616:=by simp[IntKind.wrap,IntKind.bits,IntKind.signed]
theorem KI (n:Int):Value.int .u64 (n%18446744073709551616)=U (BitVec.ofInt 64 n):=by rw[U,BitVec.toNat_ofInt];congr 1;omega
theorem MM (x:BitVec 64):(x.toNat:Int)<18446744073709551616:=by have:=x.isLt;omega
section
variable {P:Program} {w:World} (t s:TypeId) (x y:BitVec 64)
theorem Bv (f:BitVec 64→BitVec 64→BitVec 64)(a b:Int)(h:BitVec.ofInt 64 a=x)(h':BitVec.ofInt 64 b=y):Value.int .u64 (IntKind.u64.wrap ((f (BitVec.ofInt 64 a) (BitVec.ofInt 64 b)).toNat:Int))=U (f x y):=by rw[h,h',jw,U];congr 1;have:=MM (f x y);omega
theorem jZ:BitVec.ofInt 64 (x.toNat:Int)=x:=by apply BitVec.eq_of_toNat_eq;rw[BitVec.toNat_ofInt];have:=x.isLt;omega
theorem qb:(binOp .and t (U x) (U y)).run P w=.ok (U (x&&&y)) w:=by show Result.ok (Value.int .u64 (IntKind.u64.wrap ((BitVec.ofInt 64 x.toNat&&&BitVec.ofInt 64 y.toNat).toNat:Int))) w=_;rw[Bv x y (·&&&·) _ _ (jZ x) (jZ y)]
theorem xr:(binOp .or t (U x) (U y)).run P w=.ok (U (x|||y)) w:=by show Result.ok (Value.int .u64 (IntKind.u64.wrap ((BitVec.ofInt 64 x.toNat|||BitVec.ofInt 64 y.toNat).toNat:Int))) w=_;rw[Bv x y (·|||·) _ _ (jZ x) (jZ y)]
theorem ju:(binOp .andNot t (U x) (U y)).run P w=.ok (U (x&&& ~~~y)) w:=by show Result.ok (Value.int .u64 (IntKind.u64.wrap ((BitVec.ofInt 64 x.toNat&&& ~~~BitVec.ofInt 64 y.toNat).toNat:Int))) w=_;rw[Bv x y (fun a b=>a&&& ~~~b) _ _ (jZ x) (jZ y)]
theorem nA:(binOp .and t (U x) (.int .u64 1)).run P w=.ok (U (x&&&1#64)) w:=qb t x 1#64
theorem MW:(binOp .add t (U x) (U y)).run P w=.ok (U (x+y)) w:=by simp only[binOp,U,Op.intArith,jw];rw[KI,U];congr 2
theorem MF:(binOp .sub t (U x) (U y)).run P w=.ok (U (x-y)) w:=by
 have h:BitVec.ofInt 64 ((x.toNat:Int)-(y.toNat:Int))=x-y:=by apply BitVec.eq_of_toNat_eq;rw[BitVec.toNat_ofInt,BitVec.toNat_sub];have:=x.isLt;have:=y.isLt;omega
 simp only[binOp,U,Op.intArith,jw];rw[KI,U,h];simp
theorem Kt:(binOp .mul t (U x) (U y)).run P w=.ok (U (x*y)) w:=by simp only[binOp,U,Op.intArith,jw];rw[KI,U];congr 2
theorem nE:(binOp .sub t (U x) (.int .u64 1)).run P w=.ok (U (x-1#64)) w:=MF t x 1#64
theorem MS:(binOp .mul t (U x) (.int .u64 2)).run P w=.ok (U (x*2#64)) w:=Kt t x 2#64
theorem LK:(binOp .quo t (U x) (.int .u64 2)).run P w=.ok (U (x>>>1)) w:=by
 have h:(x>>>1).toNat=x.toNat/2:=by rw[BitVec.toNat_ushiftRight,Nat.shiftRight_eq_div_pow]
 have:=x.isLt;simp only[binOp,U,Op.intDiv,jw,h];simp;omega
theorem LL:(binOp .rem t (U x) (.int .u64 2)).run P w=.ok (U (x&&&1#64)) w:=by
 have h:(x&&&1#64).toNat=x.toNat%2:=by rw[BitVec.toNat_and];exact Nat.and_one_is_mod _
 simp only[binOp,U,Op.intDiv,h];simp;exact Int.tmod_eq_emod_of_nonneg (by omega)
theorem Mf:((x.toNat:Int)==(y.toNat:Int))=(x==y):=by
 rw[Bool.eq_iff_iff,cy,cy];constructor;·intro h;exact BitVec.eq_of_toNat_eq (by omega)
 rintro rfl;rfl
theorem Ks:(binOp .eql t (U x) (U y)).run P w=.ok (.bool (x==y)) w:=by simp[binOp,U,Op.intCmp,Mf]
theorem Ku:(binOp .neq t (U x) (U y)).run P w=.ok (.bool (x !=y)) w:=by simp[binOp,U,Op.intCmp,bne,Mf]
theorem nB:(binOp .eql t (U x) (.int .u64 0)).run P w=.ok (.bool (x==0#64)) w:=Ks t x 0#64
theorem nC:(binOp .neq t (U x) (.int .u64 0)).run P w=.ok (.bool (x !=0#64)) w:=Ku t x 0#64
theorem ms:(binOp .eql t (U x) (.int .u64 1)).run P w=.ok (.bool (x==1#64)) w:=Ks t x 1#64
theorem rq (i:Nat)(hi:i<64):(binOp .shr t (U x) (.int .i64 i)).run P w=.ok (U (x>>>i)) w:=by
 have j:¬(i:Int)<0:=by omega
 have l:min i 64=i:=by omega
 have o:(x>>>i).toNat=x.toNat/2^i:=by rw[BitVec.toNat_ushiftRight,Nat.shiftRight_eq_div_pow]
 simp only[binOp,U,Op.shift,j,if_false,dP,IntKind.bits,l,o];rw[Int.fdiv_eq_ediv_of_nonneg _ (by exact_mod_cast Nat.zero_le _)];simp
theorem nD (i:Nat)(hi:i<64):(binOp .shl t (.int .u64 1) (.int .i64 i)).run P w=.ok (U (1#64<<<i)) w:=by
 have j:¬(i:Int)<0:=by omega
 have l:min i 64=i:=by omega
 have o:(1#64<<<i).toNat=2^i%18446744073709551616:=by rw[BitVec.toNat_shiftLeft,Nat.shiftLeft_eq];simp
 simp only[binOp,U,Op.shift,j,if_false,dP,IntKind.bits,l,o,jw];simp
theorem wL (op:BinOp)(p q:Operand):(eqGuard op t p q (U x) (U y)).run P w=.ok () w:=by cases op<;>simp[eqGuard,U]
theorem pD (op:BinOp)(p q:Operand)(n:Int):(eqGuard op t p q (U x) (.int .u64 n)).run P w=.ok () w:=by cases op<;>simp[eqGuard,U]
end
end
section
theorem ME (i:Nat):Value.int .u64 (IntKind.u64.wrap (2^i))=U (1#64<<<i):=by
 have j:(1#64<<<i).toNat=2^i%18446744073709551616:=by rw[BitVec.toNat_shiftLeft,Nat.shiftLeft_eq];simp
 rw[U,j,jw];simp
theorem lh {P:Program}{w:World}(t:TypeId)(x:BitVec 64)(i:Nat):(binOp .or t (U x) (.int .u64 (IntKind.u64.wrap (2^i)))).run P w=.ok (U (x|||1#64<<<i)) w:=by rw[ME i];exact xr t x _
attribute [local go_sem] lh qb xr ju nA nE nB nC ms rq nD wL pD
theorem sW (i:Int)(w:World):Calls prog 188 #[.int .i64 i] w fun e j=>e=.returned (.bool (decide (0≤i∧i<64)))∧w=j:=by
 by_cases l:0≤i
 ·go_enter func188,ntmps188
  go_wp2;go_ret;exact⟨by simp[l],rfl⟩
 go_enter func188,ntmps188;go_wp2;go_ret;exact⟨by simp;omega,rfl⟩
theorem EX (x:BitVec 64)(i:Nat):((x>>>i)&&&1#64==1#64)=x.getLsbD i:=by
 rw[Bool.eq_iff_iff,cy];constructor
 ·intro h
  have:=congrArg (fun y=>y.getLsbD 0) h;simpa using this
 intro h;apply BitVec.eq_of_getLsbD_eq;intro j l;by_cases e:j=0;·subst e;simpa using h
 simp[e]
theorem yJ (x:BitVec 64)(i:Nat)(hi:i<64)(w:World):Calls prog 166 #[U x,.int .i64 i] w fun e l=>e=.returned (.bool (x.getLsbD i))∧w=l:=by have j:=fun w=>sW i w;rw[bL ⟨by omega,by omega⟩] at j;have C:=oH j;have o:=EX x i;have I:=oH o;clear j o;go_enter func166,ntmps166;go_wp2_with (go_at_call 188;refine(C.out _).mono ?_;rintro e l ⟨rfl,rfl⟩);go_ret;exact⟨by rw[←I.out];rfl,rfl⟩
theorem Dq (x:BitVec 64)(i:Nat)(hi:i<64)(w:World):Calls prog 168 #[U x,.int .i64 i] w fun e l=>e=.returned (U (x|||1#64<<<i))∧w=l:=by have j:=fun w=>sW i w;rw[bL ⟨by omega,by omega⟩] at j;have o:=oH j;clear j;go_enter func168,ntmps168;go_wp2_with (go_at_call 188;refine(o.out _).mono ?_;rintro e l ⟨rfl,rfl⟩);go_ret;exact⟨rfl,rfl⟩
def oU:Nat→BitVec 64
 |0=>0#64
 |n+1=>oU n|||1#64<<<n
theorem yD (n k:Nat)(j:k<64):(oU n).getLsbD k=decide (k<n):=by
 induction n with
 |zero=>simp[oU]
 |succ n l=>
  rw[oU,BitVec.getLsbD_or,l,BitVec.getLsbD_shiftLeft];by_cases h:k<n;·simp[h,j];omega
  by_cases e:k=n;·subst e;simp[j]
  have o:¬k<n+1:=by omega
  have C:k-n≠0:=by omega
  simp[h,o,C]
theorem AD (n:Nat)(C:n≤64)(w:World):Calls prog 165 #[.int .i64 n] w fun e l=>e=.returned (U (oU n))∧w=l:=by
 have j:U (oU 0)=.int .u64 0:=rfl;have I:=oH j;clear j;go_enter func165,ntmps165;go_wp2;go_loopg [3,8] n (fun g m i wr=>∃k:Nat,k≤n∧g=n-k∧i=.int .i64 k∧m=U (oU k)∧w=wr);·exact⟨0,by omega,by omega,rfl,rfl,rfl⟩
 obtain⟨k,J,rfl,rfl,rfl,rfl⟩:=hrel;by_cases o:k<n
 ·go_wp2
  go_roundg (n-(k+1));·exact⟨k+1,by omega,rfl,by go_num,rfl,rfl⟩
  omega
 obtain rfl:k=n:=by omega
 go_wp2;go_ret;exact⟨rfl,rfl⟩
end
section
attribute [local go_sem] lh qb xr ju nA nE nB nC ms rq nD wL pD
def Fp (i:Nat):Nat:=[0,1,56,2,57,49,28,3,61,58,42,50,38,29,17,4,62,47,59,36,45,43,51,22,53,39,33,30,24,18,12,5,63,55,48,27,60,41,37,16,46,35,44,21,52,32,23,11,54,26,40,15,34,20,31,10,25,14,19,9,13,8,7,6].getD i 0
def nt (i:Nat):ByteArray:=[⟨#[]⟩,⟨#[97,100,100]⟩,⟨#[115,117,98]⟩,⟨#[109,117,108]⟩,⟨#[100,105,118]⟩,⟨#[109,111,100]⟩,⟨#[97,110,100]⟩,⟨#[111,114]⟩,⟨#[120,111,114]⟩,⟨#[115,104,108]⟩,⟨#[115,104,114]⟩,⟨#[101,113]⟩,⟨#[108,101,115,115]⟩].getD i ⟨#[]⟩
def gz (w:World):Prop:=(∀i,i<64→w.cell? ⟨0,i,none⟩=some (.int .u8 (Fp i)))∧∀i,i<13→w.cell? ⟨1,i,none⟩=some (.string (nt i))
theorem gz.keep {w j:World}(h:gz w)(k:aa All w j):gz j:=
 ⟨fun i hi=>k.cell (p:=⟨0,i,none⟩) trivial (h.1 i hi),fun i hi=>k.cell (p:=⟨1,i,none⟩) trivial (h.2 i hi)⟩
def Dk (y:BitVec 64):Nat:=(y>>>58).toNat
def vD (y:BitVec 64):BitVec 64:=y*285870213051353865#64
def pw (k:Nat):BitVec 64:=1#64<<<k
theorem Fq:∀k:Fin 64,Fp (Dk (vD (pw k.val)))=k.val∧Dk (vD (pw k.val))<64:=by decide+kernel
def LO (x:BitVec 64)(k:Nat):Prop:=k<64∧x.getLsbD k=true∧∀j,j<k→x.getLsbD j=false
theorem Cd {x:BitVec 64}{k:Nat}(h:LO x k):x&&& -x=pw k:=by
 unfold pw;obtain⟨Z,I,J⟩:=h;apply BitVec.eq_of_getLsbD_eq;intro i hi;rw[BitVec.getLsbD_and,BitVec.getLsbD_neg,BitVec.getLsbD_shiftLeft];rcases Nat.lt_trichotomy i k with e|e|e;·simp[J i e,e]
 ·subst e
  have l:¬∃j,j<i∧x.getLsbD j=true:=by rintro⟨j,Y,R⟩;rw[J j Y] at R;cases R
  simp[I,hi,l]
 have hex:∃j,j<i∧x.getLsbD j=true:=⟨k,e,I⟩;have o:i-k≠0:=by omega
 have C:¬i<k:=by omega
 simp[hi,hex,C,o]
theorem Lf {x:BitVec 64}(h:x≠0#64):∃k,LO x k:=by
 have hex:∃k,k<64∧x.getLsbD k=true:=by(
 apply Classical.byContradiction;intro C;apply h;apply BitVec.eq_of_getLsbD_eq;intro i hi;cases e:x.getLsbD i with
 |false=>simp
 |true=>exact absurd ⟨i,hi,e⟩ C)
 obtain⟨k,I,o⟩:=hex;have:∀n,∀k,k≤n→k<64→x.getLsbD k=true→∃k,LO x k:=by(
 intro n;induction n with
 |zero=>intro k I l o;exact⟨k,l,o,fun j J=>by omega⟩
 |succ n Z=>
  intro k I l o;by_cases Y:∃j,j<k∧x.getLsbD j=true
  ·obtain⟨j,J,R⟩:=Y
   exact Z j (by omega) (by omega) R
  refine⟨k,l,o,fun j J=>?_⟩;cases e:x.getLsbD j with
  |false=>rfl
  |true=>exact absurd ⟨j,J,e⟩ Y)
 exact this k k (cf _) I o
theorem MD {P:Program}{w:World}(x:BitVec 64):(Op.unary .neg (U x)).run P w=.ok (U (-x)) w:=by
 have h:BitVec.ofInt 64 (-(x.toNat:Int))= -x:=by apply BitVec.eq_of_toNat_eq;rw[BitVec.toNat_ofInt,BitVec.toNat_neg];have:=x.isLt;omega
 have j:((-x).toNat:Int)= -(x.toNat:Int)%18446744073709551616:=by rw[←h,BitVec.toNat_ofInt];omega
 simp only[U,j];simp[Op.unary,Op.intArith,jw]
theorem JQ {P:Program}{w:World}(t:TypeId)(x:BitVec 64):(binOp .mul t (U x) (.int .u64 285870213051353865)).run P w=.ok (U (vD x)) w:=Kt t x 285870213051353865#64
theorem JR {P:Program}{w:World}(t:TypeId)(x:BitVec 64):(binOp .shr t (U x) (.int .u64 58)).run P w=.ok (.int .u64 (Dk x:Nat)) w:=by
 have j:Dk x=x.toNat/2^58:=by rw[Dk,BitVec.toNat_ushiftRight,Nat.shiftRight_eq_div_pow]
 simp only[binOp,U,Op.shift,IntKind.bits,j];simp;exact Int.fdiv_eq_ediv_of_nonneg _ (by decide)
attribute [local go_sem] MD
theorem MN (n:Nat)(h:n<64)(w:World):(Instr.indexAt 244 (.pointer (some ⟨0,0,none⟩)) (.int .u64 n)).run prog w=.ok (.pointer (some ⟨0,n,none⟩)) w:=by
 have hi:(n:Int)<64:=by omega
 have j:(0:Int)≤n:=by omega
 go_simp
theorem LJ (x:BitVec 64)(k:Nat)(w:World)(C:gz w)(l:LO x k):Calls prog 190 #[U x] w fun e R=>e=.returned (.int .i64 k)∧w=R:=by
 have hx:(x==0#64)=false:=by rw[bE];rintro rfl;have:=l.2.1;simp at this
 have hn:=Cd l;have o:=Fq ⟨k,l.1⟩;have I:=C.1 _ o.2;rw[o.1] at I;have j:=o.2;have J:k<64:=l.1;have Y:=fun t w=>JQ (P:=prog) (w:=w) t (pw k);have Z:=fun t w=>JR (P:=prog) (w:=w) t (vD (pw k));simp only at I j;clear o C l;generalize Dk (vD (pw k))=n at*;generalize vD (pw k)=y at*;generalize pw k=z at*;have a1:=MN n j;clear j;go_enter func190,ntmps190;go_wp2;go_ret;exact⟨rfl,rfl⟩
end
end Go.Proofs.YtceloincoomjeaaGreatDoor
