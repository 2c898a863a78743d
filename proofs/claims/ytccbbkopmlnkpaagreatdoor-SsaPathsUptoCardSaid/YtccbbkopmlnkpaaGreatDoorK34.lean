/- Part 35 of the proof (its last part says what is proved). No condition. -/
import Derived.Test.YtccbbkopmlnkpaaGreatDoorK24
import Derived.Test.YtccbbkopmlnkpaaGreatDoorK33
namespace Go.Proofs.YtccbbkopmlnkpaaGreatDoor
set_option maxRecDepth 100000
set_option maxHeartbeats 8000000
open Go.RowKit Go.Proofs.Tryz
theorem JD {w:World}{B j:Nat}{e:TypeId}{n m:Nat}{v:Value}{xs:List Value}(h:w.ownsRow B e n v m xs)(o:j≤B):w.ownsRow j e n v m xs:=by
 refine⟨h.1,?_⟩;rcases h.2 with C|⟨g,cap,cur,I,J,rest⟩;·exact .inl C
 exact .inr ⟨g,cap,cur,I,dA o J,rest⟩
theorem cq.low {α:Type}{n:Nat}{e:TypeId}{E:aT α}{B o:Nat}{w:World}{v:Value}{l:List α}(h:cq n e E B w v l)(C:o≤B):cq n e E o w v l:=by obtain⟨j,P,R,Y,h3,I,h5⟩:=h;exact⟨j,P,JD R C,Y,h3,fun b J=>⟨dA C (I b J).1,(I b J).2⟩,h5⟩
def rs {α:Type}(e:TypeId)(E:aT α)(B:Nat)(w:World)(v:Value)(l:List α):Prop:=(l=[]→v=.slice none 0 0)∧cq 2 e E B w v l
theorem rs.keep {α:Type}{e:TypeId}{E:aT α}(g:aT.Good E){S:Nat→Prop}{B:Nat}{w j:World}{v:Value}{l:List α}(h:rs e E B w v l)(k:aa S w j)(o:∀b,B≤b→b<w.heap.size→S b):rs e E B j v l:=⟨h.1,h.2.keep g k o⟩
theorem rs.zero {α:Type}{e:TypeId}{E:aT α}{B:Nat}{w j:World}{v:Value}{l:List α}(h:rs e E B w v l)(o:l=[]):rs e E B j v l:=by subst o;have:=h.1 rfl;subst this;exact⟨fun _=>rfl,cq.nil⟩
structure sd (B rd:Nat)(W:World)(p:aI)(fl:List (Nat×Nat)):Prop where
 low:rd<B
 size:B≤W.heap.size
 up:p.up=[]
 dep:0≤p.Nj∧p.Nj≤64
 few:p.Ng.length<64∧p.Ni.length<100∧p.Nh.length<100
 box:∃a1 c1 a3 c3 a4 c4 a5 c5,al W rd 124 #[.slice a1 p.Ng.length c1,.slice none 0 0,.slice a3 p.Ni.length c3,.slice a4 p.Nh.length c4,.int .i64 p.Nj,.slice a5 fl.length c5]∧
  W.ownsRow B 9 1 (.slice a1 p.Ng.length c1) p.Ng.length (p.Ng.map Value.string)∧rs 228 qP B W (.slice a3 p.Ni.length c3) p.Ni∧rs 228 qP B W (.slice a4 p.Nh.length c4) p.Nh∧rs 74 MA B W (.slice a5 fl.length c5) fl
theorem sd.keep {B rd:Nat}{W o:World}{p:aI}{C:List (Nat×Nat)}(h:sd B rd W p C)(k:aa (fun b=>b=rd∨B≤b) W o):sd B rd o p C:=by obtain⟨J,R,a3,Y,a4,c4,a5,c5,j,I,h3,h4,h5⟩:=h.box;exact⟨h.low,dA h.size k.size,h.up,h.dep,h.few,J,R,a3,Y,a4,c4,a5,c5,j.kept k (.inl rfl),ay I k (fun g hg=>.inr (au I hg).1),h3.keep dh k (fun b j _=>.inr j),h4.keep dh k (fun b j _=>.inr j),h5.keep oL k (fun b j _=>.inr j)⟩
theorem qx {n:Int}(j: -1000≤n)(o:n≤1000):(Lit.int .i64 n).wf=true:=by simp only[Lit.wf,IntKind.min,IntKind.max,IntKind.signed,IntKind.bits,dX,eq,if_true];omega
theorem qF {w:World}{B:Nat}{v:Value}{l:List ByteArray}(h:w.ownsRow B 9 1 v l.length (l.map Value.string))(C:l.length≤1000000):cC (fun b=>B≤b∧b<w.heap.size) w v l:=by refine Sl.of_own h (by omega) (fun g j=>au h j) fun i x o=>⟨.string x,?_,rfl⟩;rw[cy,o];rfl
theorem sd.pol {B:Nat}{W:World}{p:aI}{j a3 a4:Option Addr}{o C I:Nat}(hu:p.up=[])(J:0≤p.Nj∧p.Nj≤64)(hf:p.Ng.length<64∧p.Ni.length<100∧p.Nh.length<100)
 (R:W.ownsRow B 9 1 (.slice j p.Ng.length o) p.Ng.length (p.Ng.map Value.string)) (Y:rs 228 qP B W (.slice a3 p.Ni.length C) p.Ni) (h4:rs 228 qP B W (.slice a4 p.Nh.length I) p.Nh):
 gR (fun b=>B≤b∧b<W.heap.size) W (.agg #[.slice j p.Ng.length o,.slice none 0 0,.slice a3 p.Ni.length C,.slice a4 p.Nh.length I,.int .i64 p.Nj]) p:=
 ⟨_,_,_,_,rfl,qF R (by omega),by rw[hu];exact Sl.nil,Y.2.read (bw:=24) dh (by omega),h4.2.read (bw:=24) dh (by omega),qx (by have:=J.1;omega) (by have:=J.2;omega)⟩
def kO (B rd:Nat)(w:World)(p:aI)(fl:List (Nat×Nat))(e:Ending)(w':World):Prop:=e=.returned (.int .i64 0)∧aa (fun b=>b<B∧b≠rd) w w'∧sd B rd w' p fl
theorem xM {B:Nat}{w:World}{o:Option Addr}{C:Nat}{s:ByteArray}{L:Nat}(h:w.ownsRow B 228 2 (.slice o 1 C) 1 [.string s,.int .i64 L])(J:L≤64):rs 228 qP B w (.slice o 1 C) [(s,(L:Int))]:=by
 refine⟨(fun e=>by cases e),?_⟩;refine⟨[[.string s,.int .i64 L]],fun _=>False,h,rfl,(fun cs I=>by rw[ce.1 I];rfl),fun _ h=>h.elim,fun i x j=>?_⟩
 match i,j with
 |0,j=>cases j;exact⟨_,rfl,rfl,qx (by omega) (by omega)⟩
 |(i+1),j=>simp at j
theorem tO (B rd:Nat)(p:aI)(w:World)(h:sd B rd w p [])(hi:p.Ni=[])(R:p.Nh=[])(s:ByteArray)(Y:Nat→Prop)(A:Option Addr)(c:Nat)(hv:cC Y w (.slice A 1 c) [s])(hs:∀b,Y b→∃C:World,sd B rd C p []∧C.heap.size≤b∧aa (fun b=>b=rd∨B≤b) C w)(a6:cH p s<0)(hn:p.Ng.length<63):
 Calls prog 177 #[.pointer (some ⟨rd,0,none⟩),.slice A 1 c] w (kO B rd w {p with Ng:=p.Ng++[s]} []):=by
 obtain⟨a1,c1,a3,c3,a4,c4,a5,c5,h1,I,h3,h4,h5⟩:=h.box;refine(Ar B rd 0 p a1 a3 a4 a5 c1 c3 c4 c5 s _ Y A c w h1 (sd.pol h.up h.dep h.few I h3 h4) I h.size hv ?_ a6 (by omega)).mono ?_;·intro b j he;obtain⟨C,R,b2,J⟩:=hs b j;obtain⟨b1,d1,b3,d3,b4,d4,b5,d5,g1,g2,_⟩:=R.box;have a7:=g1.kept J (.inl rfl);have e1:=a7.cell 0;have o:=h1.cell 0;simp only[gc] at e1 o;rw[e1] at o;injection o with o;rw[←o] at he;have:=(au g2 he).2;omega
 rintro e w' ⟨rfl,J,A5,C5,j,hr,_⟩;have a8:=J.size;have b0:=h.low;have b6:(Value.slice a1 p.Ng.length c1).ownBlock≠some rd:=fun e=>by have:=(au I e).1;omega
 refine⟨rfl,J.mono fun b j=>⟨j.2,fun e=>by have:=(au I e).1;omega⟩,h.low,dA h.size a8,h.up,h.dep,⟨by rw[eV];show p.Ng.length+1<64;omega,h.few.2⟩,A5,C5,a3,c3,a4,c4,a5,c5,?_,?_,h3.zero hi,h4.zero R,h5.zero rfl⟩
 ·show al w' rd _ #[.slice A5 (p.Ng++[s]).length C5,_,_,_,_,_]
  rw[eV];exact j
 show w'.ownsRow B _ 1 (.slice A5 (p.Ng++[s]).length C5) (p.Ng++[s]).length ((p.Ng++[s]).map Value.string);rw[eV,gU];exact hr
theorem Ec (B rd:Nat)(p:aI)(w:World)(h:sd B rd w p [])(s s2:ByteArray)(S2:Nat→Prop)(A:Option Addr)(c:Nat)(hv:cC S2 w (.slice A 2 c) [s,s2])(J R:Nat)(hL:cH p s=J)(Y:cH p s2=R):
 Calls prog 178 #[.pointer (some ⟨rd,0,none⟩),.slice A 2 c] w (kO B rd w p [(J,R)]):=by
 obtain⟨a1,c1,a3,c3,a4,c4,a5,c5,o,h2,h3,h4,h5⟩:=h.box;have e5:=h5.1 rfl;injection e5 with e5 e6 e7;subst e5;subst e7;refine(DF B rd _ _ _ p.Nj p a1 a3 a4 c1 c3 c4 s s2 J R _ S2 A c w o (sd.pol h.up h.dep h.few h2 h3 h4) h.size hv hL Y).mono ?_;rintro e w' ⟨rfl,C,A5,C5,I,hr⟩;have a6:=C.size;have a7:=h.low;have j:∀b,B≤b→b≠rd:=fun b I=>by omega
 exact⟨rfl,C.mono fun b I=>I.2,h.low,dA h.size a6,h.up,h.dep,h.few,a1,c1,a3,c3,a4,c4,A5,C5,I,ay h2 C (fun g hg=>j _ (au h2 hg).1),h3.keep dh C (fun b o _=>j _ o),h4.keep dh C (fun b o _=>j _ o),(fun e=>by cases e),hr.low h.size⟩
theorem AY (B rd:Nat)(p:aI)(fl:List (Nat×Nat))(w:World)(h:sd B rd w p fl)(hi:p.Ni=[])(s s2:ByteArray)(S2:Nat→Prop)(A:Option Addr)(c:Nat)(hv:cC S2 w (.slice A 2 c) [s,s2])(L:Nat)(hL:cH p s2=L)(hz:L≤64)(hs:s.size≤65536):
 Calls prog 179 #[.pointer (some ⟨rd,0,none⟩),.slice A 2 c] w (kO B rd w {p with Ni:=[(s,(L:Int))]} fl):=by
 obtain⟨a1,c1,a3,c3,a4,c4,a5,c5,o,J,h3,h4,h5⟩:=h.box;have hp:=sd.pol h.up h.dep h.few J h3 h4;have R:=h3.1 hi;injection R with R e6 e7;subst R;subst e7;rw[e6] at o hp;refine(Ao B rd _ _ p.Nj p a1 a4 a5 c1 _ c4 c5 s s2 L _ S2 A c w o hp h.size hv hL hs).mono ?_;rintro e w' ⟨rfl,C,A5,C5,I,hr,_⟩;have Y:=C.size;have a6:=h.low;have j:∀b,B≤b→b≠rd:=fun b I=>by omega
 exact⟨rfl,C.mono fun b I=>I.2,h.low,dA h.size Y,h.up,h.dep,⟨h.few.1,by show 1<100;decide,h.few.2.2⟩,a1,c1,A5,C5,a4,c4,a5,c5,I,ay J C (fun g hg=>j _ (au J hg).1),xM hr hz,h4.keep dh C (fun b o _=>j _ o),h5.keep oL C (fun b o _=>j _ o)⟩
theorem zd (B rd:Nat)(p:aI)(fl:List (Nat×Nat))(w:World)(h:sd B rd w p fl)(hi:p.Nh=[])(s s2:ByteArray)(S2:Nat→Prop)(A:Option Addr)(c:Nat)(hv:cC S2 w (.slice A 2 c) [s,s2])(L:Nat)(hL:cH p s2=L)(hz:L≤64)(hs:s.size≤65536):
 Calls prog 180 #[.pointer (some ⟨rd,0,none⟩),.slice A 2 c] w (kO B rd w {p with Nh:=[(s,(L:Int))]} fl):=by
 obtain⟨a1,c1,a3,c3,a4,c4,a5,c5,o,J,h3,h4,h5⟩:=h.box;have hp:=sd.pol h.up h.dep h.few J h3 h4;have R:=h4.1 hi;injection R with R e6 e7;subst R;subst e7;rw[e6] at o hp;refine(yJ B rd _ _ p.Nj p a1 a3 a5 c1 _ c3 c5 s s2 L _ S2 A c w o hp h.size hv hL hs).mono ?_;rintro e w' ⟨rfl,C,A5,C5,I,hr,_⟩;have Y:=C.size;have a6:=h.low;have j:∀b,B≤b→b≠rd:=fun b I=>by omega
 exact⟨rfl,C.mono fun b I=>I.2,h.low,dA h.size Y,h.up,h.dep,⟨h.few.1,h.few.2.1,by show 1<100;decide⟩,a1,c1,a3,c3,A5,C5,a5,c5,I,ay J C (fun g hg=>j _ (au J hg).1),h3.keep dh C (fun b o _=>j _ o),xM hr hz,h5.keep oL C (fun b o _=>j _ o)⟩
theorem AX (B rd:Nat)(p:aI)(fl:List (Nat×Nat))(w:World)(h:sd B rd w p fl)(hi:p.Nj=0)(s:ByteArray)(S2:Nat→Prop)(A:Option Addr)(c d:Nat)(hv:cC S2 w (.slice A 1 c) [s])(hs:s.size≤65536)(J:dD s=true)(R:s.size=0∨dN s 0≠45)(hn:fM s=some d)(Y:1≤d)(a6:d≤64):
 Calls prog 181 #[.pointer (some ⟨rd,0,none⟩),.slice A 1 c] w (kO B rd w {p with Nj:=(d:Int)} fl):=by
 obtain⟨a1,c1,a3,c3,a4,c4,a5,c5,o,h2,h3,h4,h5⟩:=h.box;rw[hi] at o;refine(CJ rd _ _ _ _ _ d s S2 A c w o hv hs J R hn Y a6).mono ?_;rintro e w' ⟨rfl,C,I⟩;have a7:=C.size;have a8:=h.low;have j:∀b,B≤b→b≠rd:=fun b I=>by omega
 exact⟨rfl,C.mono fun b I=>I.2,h.low,dA h.size a7,h.up,⟨by show(0:Int)≤d;omega,by show(d:Int)≤64;omega⟩,h.few,a1,c1,a3,c3,a4,c4,a5,c5,I,ay h2 C (fun g hg=>j _ (au h2 hg).1),h3.keep dh C (fun b o _=>j _ o),h4.keep dh C (fun b o _=>j _ o),h5.keep oL C (fun b o _=>j _ o)⟩
section
def Ke (s:ByteArray):Bool:=(List.range 13).any fun i=>decide (0<i)&&(lT i).toList==s.toList
theorem Bz (s:ByteArray)(w:World)(C:cP w)(I:Ke s=false):Calls prog 248 #[.string s] w fun e Y=>e=.returned (.tuple #[.int .u8 0,.bool false])∧w=Y:=by
 have J:=J2 C I;clear C I;go_enter func248,ntmps248;go_wp2;go_loopg [5] 13 (fun g s5 wr=>∃i:Nat,g=13-i∧s5=.int .i64 i∧i≤13∧w=wr);·exact⟨0,by omega,rfl,by omega,rfl⟩
 obtain⟨i,rfl,rfl,hi,rfl⟩:=hrel;by_cases j:i<13;·(
 have hc:=J.1.2 i j;have hd:decide (13>(i:Int))=true:=by simp;omega
 by_cases h0:0<i
 ·have a1:((lT i).toList==s.toList)=false:=by have h:=J.2;unfold Ke at h;have R:=List.any_eq_false.1 h i (dW.2 j);simp only[dX,eq,not_and,Bool.not_eq_true] at R;exact R h0
  have o:decide (0<(i:Int))=true:=by simp;omega
  go_wp2;go_roundg (13-(i+1));·exact⟨i+1,rfl,by go_num,by omega,rfl⟩
  omega
 have o:decide (0<(i:Int))=false:=by simp;omega
 go_wp2;go_roundg (13-(i+1));·exact⟨i+1,rfl,by go_num,by omega,rfl⟩
 omega)
 obtain rfl:i=13:=by omega
 go_wp2;go_ret2;exact⟨rfl,rfl⟩
theorem FE (f:FuncId)(w:World):(binOp .neq 289 (.func (.func f) #[] #[]) .nilFunc).run prog w=.ok (.bool true) w:=by kernel_rfl
theorem KN (f:FuncId)(w:World):(binOp .eql 289 (.func (.func f) #[] #[]) .nilFunc).run prog w=.ok (.bool false) w:=by kernel_rfl
theorem Jt (w:World):(binOp .neq 289 .nilFunc .nilFunc).run prog w=.ok (.bool false) w:=by kernel_rfl
theorem Js (w:World):(binOp .eql 289 .nilFunc .nilFunc).run prog w=.ok (.bool true) w:=by kernel_rfl
attribute [local go_sem] FE
theorem nt {p:aL}{x x':aB}{k k':Nat}(h:qI p x k=some (x',k')):
 (p.txt k=sq∧∃n,p.is (k+1) 3=true∧fM (p.txt (k+1))=some n∧x'= {x with kind:=1,num:=n}∧k'=k+1+1)∨
 (p.txt k=EY∧p.txt (k+1)=MC∧∃C I o,ry p 65 0 (k+1+1) [] []=some (C,I,o)∧p.txt o=MD∧x'= {x with kind:=3,Nn:=C,args:=I}∧k'=o+1):=by
 unfold qI at h;split at h
 ·rename_i J;left;unfold jJ at h;by_cases j:p.is (k+1) 3=true
  ·simp only[j,if_true,Option.bind_eq_bind,Option.bind_some] at h;cases Y:fM (p.txt (k+1)) with
   |none=>rw[Y] at h;cases h
   |some n=>rw[Y] at h;cases h;exact⟨J,n,j,rfl,rfl,rfl⟩
  simp[j] at h
 split at h;·(
 rename_i J;right;unfold mn at h;by_cases j:p.txt (k+1)=MC
 ·simp only[j,if_true,Option.bind_eq_bind,Option.bind_some] at h;cases hq:ry p 65 0 (k+1+1) [] [] with
  |none=>rw[hq] at h;cases h
  |some r=>
   obtain⟨C,I,o⟩:=r;rw[hq] at h;simp only[Option.bind_some] at h;by_cases R:p.txt o=MD;·simp only[R,if_true,Option.bind_some] at h;cases h;exact⟨J,j,C,I,o,rfl,R,rfl,rfl⟩
   simp[R] at h
 simp[j] at h)
 cases h
theorem AG (B pb xb:Nat)(p:aL)(A:Option Addr)(C k m k':Nat)(x x':aB)(w:World)(h:PB w B pb p A C k m)(hx:om w B xb x)(hp:p.Ok)(hl:cP w)(ha:x.args=[])(hf:x.Nn=[])(hr:qI p x k=some (x',k')):
 Calls prog 230 #[.pointer (some ⟨pb,0,none⟩),.pointer (some ⟨xb,0,none⟩)] w (nw B pb xb p A C m k' x' w):=by
 have H0:=J2 (St.first h hx) hl;have a6:=J2 ha hf;have b1:=hp.len;clear h hx hl ha hf;rcases nt hr with ⟨hw,n,hq,hn,rfl,rfl⟩|⟨hw,hq,fr,ar,k2,a7,a8,rfl,rfl⟩
 ·have HQ:=oH hw;have b0:=lX (p:=p) (k:=k) (by rw[hw];decide);clear hw hr;go_enter func230,ntmps230;go_wp2_with fail;refine(dS pb p A C k m 0 w H0.1.par.pat hp (by omega)).mono ?_;rintro e w1 ⟨rfl,o⟩;rw[cJ,HQ.out];have H1:=J2 (H0.1.all o) (H0.2.keep o);clear o;go_wp2_with fail;refine(Bz sq w1 H1.2 (by kernel_rfl)).mono ?_;rintro e w2 ⟨rfl,rfl⟩;go_wp2_with fail;refine(tW w1).mono ?_;rintro e w3 ⟨b,g4,g5,rfl,j,J⟩;have H3:=oH (H1.1.all J);have R:=qG sq (by decide) j;rw[show(gD (jM g4 g5) sq).getD .nilFunc=.func (.func 252) #[] #[] from rfl] at R;have I:=H3.out.par.box;have b2:=I.cell 2;have f2:=I.free 2;simp only[gc] at b2;clear J j I;go_upto_region 11 with fail;have Y:dm pb p A C (k+1) m w3 (w3.setCell ⟨pb,2,none⟩ (.int .i64 ((k+1:Nat)))):=dm.of H3.out.par.pat kR (by omega);have H4:=oH (show St w B pb xb p A C m (k+1) x (w3.setCell ⟨pb,2,none⟩ (.int .i64 ((k:Int)+1))) by simpa using H3.out.moved Y);clear Y;generalize w3.setCell _ _=W4 at*;clear b2 f2 R;go_wp2_with fail;refine(zw B pb xb p A C (k+1) m x W4 H4.out.par H4.out.Ni hp n hq hn).mono ?_;rintro e W5 ⟨rfl,a1⟩;have H5:=oH (iz H4.out a1);clear a1;go_wp2_with fail
  go_end0
  exact⟨rfl,H5.out⟩
 have HQ:=oH hw;have b0:=lX (p:=p) (k:=k) (by rw[hw];decide);clear hw hr;go_enter func230,ntmps230;go_wp2_with fail;refine(dS pb p A C k m 0 w H0.1.par.pat hp (by omega)).mono ?_;rintro e w1 ⟨rfl,o⟩;rw[cJ,HQ.out];have H1:=J2 (H0.1.all o) (H0.2.keep o);clear o;go_wp2_with fail;refine(Bz EY w1 H1.2 (by kernel_rfl)).mono ?_;rintro e w2 ⟨rfl,rfl⟩;go_wp2_with fail;refine(tW w1).mono ?_;rintro e w3 ⟨b,g4,g5,rfl,j,J⟩;have H3:=oH (H1.1.all J);have R:=qG EY (by decide) j;rw[show(gD (jM g4 g5) EY).getD .nilFunc=.func (.func 256) #[] #[] from rfl] at R;have I:=H3.out.par.box;have b2:=I.cell 2;have f2:=I.free 2;simp only[gc] at b2;clear J j I;go_upto_region 11 with fail;have Y:dm pb p A C (k+1) m w3 (w3.setCell ⟨pb,2,none⟩ (.int .i64 ((k+1:Nat)))):=dm.of H3.out.par.pat kR (by omega);have H4:=oH (show St w B pb xb p A C m (k+1) x (w3.setCell ⟨pb,2,none⟩ (.int .i64 ((k:Int)+1))) by simpa using H3.out.moved Y);clear Y;generalize w3.setCell _ _=W4 at*;clear b2 f2 R;go_wp2_with fail;refine(EV B pb xb p A C (k+1) m k2 x fr ar W4 H4.out.par H4.out.Ni hp hq (by rw[a6.1,a6.2];exact a7) a8 (by rw[a6.1];decide) (by rw[a6.2];decide)).mono ?_;rintro e W5 ⟨rfl,a1⟩;have H5:=oH (iz H4.out a1);clear a1;go_wp2_with fail
 go_end0
 exact⟨rfl,H5.out⟩
end
section
attribute [local go_sem] FE KN Jt Js
def di (x:aB)(a f:Value):Array Value:=#[.int .u8 x.kind,.int .u8 x.op,.string x.dst,.string x.ref,.string x.No,a,f,.int .i64 x.num,.int .i64 x.Np]
theorem yT {w:World}{B:Nat}{v:Value}{l:List ByteArray}{S:Nat→Prop}(h:jw B w v l)(I:l.length≤1000000)(o:∀b,B≤b→b<w.heap.size→S b):cC S w v l:=by refine Sl.of_own h (by omega) (fun g j=>o g (au h j).1 (au h j).2) fun i x C=>⟨.string x,?_,rfl⟩;rw[cy,C];rfl
def vW (pb:Nat)(p:aL)(A:Option Addr)(C k' m':Nat)(x:aB)(w:World)(e:Ending)(w':World):Prop:=
 dm pb p A C k' m' w w'∧∃a f:Value,e=.returned (.agg (di x a f))∧cC (fun b=>w.heap.size≤b∧b<w'.heap.size) w' a x.args∧cC (fun b=>w.heap.size≤b∧b<w'.heap.size) w' f x.Nn
theorem St.code {o w:World}{B pb I m k:Nat}{p:aL}{A:Option Addr}{C:Nat}{x:aB}(h:St o B pb I p A C m k x w):St o B pb I p A C (m+1) k x (w.setCell ⟨pb,3,none⟩ (.int .i64 ((m:Int)+1))):=by have J:aa (fun b=>b≠pb) w (w.setCell ⟨pb,3,none⟩ (.int .i64 ((m:Int)+1))):=kR.setCell (.inl fun h=>h rfl) _;have hm:dm pb p A C k (m+1) w (w.setCell ⟨pb,3,none⟩ (.int .i64 ((m:Int)+1))):=⟨J,by simpa using h.par.box.set 3 (.int .i64 ((m:Int)+1)),bW.wide (fun b j=>⟨j.1,by have:=h.par.size;simp;omega⟩) (bW.keep (J.mono fun b j=>j.1) h.par.toks),h.par.le⟩;exact h.moved hm
theorem mQ {p:aL}{k k':Nat}{x:aB}(h:mP p k=some (x,k')):
 (p.is k 1=true∧p.txt (k+1)=MJ∧qI p {ui with dst:=p.txt k,Np:=p.pos k} (k+1+1)=some (x,k'))∨
 (p.is k 1=false∧((p.txt k=Kc∧p.is (k+1) 1=true∧x= {ui with Np:=p.pos k,kind:=11,ref:=p.txt (k+1)}∧k'=k+1+1)∨
  (p.txt k=BA∧p.is (k+1) 1=true∧p.is (k+1+1) 1=true∧p.is (k+1+1+1) 1=true∧x= {ui with Np:=p.pos k,kind:=12,args:=[p.txt (k+1)],ref:=p.txt (k+1+1),No:=p.txt (k+1+1+1)}∧k'=k+1+1+1+1)∨
  (p.txt k=BB∧p.is (k+1) 1=true∧x= {ui with Np:=p.pos k,kind:=13,args:=[p.txt (k+1)]}∧k'=k+1+1))):=by
 unfold mP at h;by_cases C:p.is k 1=true
 ·left;simp only[C,if_true] at h;split at h;·rename_i o;exact⟨C,o,h⟩
  cases h
 right;simp only[C] at h;refine⟨by simpa using C,?_⟩;unfold LP jJ at h;simp only[Is,if_false] at h;split at h
 ·rename_i o;left;by_cases j:p.is (k+1) 1=true
  ·simp only[j,if_true,Option.bind_eq_bind,Option.bind_some] at h
   cases h;exact⟨o,j,rfl,rfl⟩
  simp[j] at h
 split at h;·(
 rename_i o;right;left;by_cases j:p.is (k+1) 1=true
 ·by_cases I:p.is (k+1+1) 1=true
  ·(
 by_cases J:p.is (k+1+1+1) 1=true
 ·simp only[j,I,J,if_true,Option.bind_eq_bind,Option.bind_some] at h
  cases h;exact⟨o,j,I,J,rfl,rfl⟩
 simp[j,I,J] at h)
  simp[j,I] at h
 simp[j] at h)
 split at h
 ·rename_i o;right;right;by_cases j:p.is (k+1) 1=true
  ·simp only[j,if_true,Option.bind_eq_bind,Option.bind_some] at h
   cases h;exact⟨o,j,rfl,rfl⟩
  simp[j] at h
 cases h
theorem yG {p:aL}:∀ {f n k:Nat} {I J j o:List ByteArray} {k':Nat},ry p f n k I J=some (j,o,k')→j.length≤I.length+f∧o.length≤J.length+f
 |0,_,_,_,_,_,_,_,h=>by cases h
 |f+1,n,k,I,J,j,o,k',h=>by(
 obtain⟨_,_,_,_,R⟩:=qC h;split at R;·have h6:=yG R;rw[eV,eV] at h6;have Y:[p.txt k].length=1:=rfl;have C:[p.txt (k+1+1)].length=1:=rfl;omega
 injection R with Y C;injection C with C e3;subst Y;subst C;rw[eV,eV];have Y:[p.txt k].length=1:=rfl;have C:[p.txt (k+1+1)].length=1:=rfl;omega)
theorem Eo {p:aL}{x x':aB}{k k':Nat}(h:qI p x k=some (x',k'))(j:x.args=[]:=by rfl)(o:x.Nn=[]:=by rfl):x'.args.length≤1000∧x'.Nn.length≤1000:=by
 rcases nt h with ⟨_,n,_,_,rfl,_⟩|⟨_,_,C,I,R,J,_,rfl,_⟩
 ·rw[show({x with kind:=1,num:=(n:Int)}:aB).args=[] from j,show({x with kind:=1,num:=(n:Int)}:aB).Nn=[] from o]
  exact⟨by decide,by decide⟩
 have:=yG J;have e:([]:List ByteArray).length=0:=rfl;show I.length≤_∧C.length≤_;omega
theorem KS {p:aL}(o:p.Ok){k:Nat}(h:p.is k 1=true):fu (p.txt k)=false:=by
 unfold aL.is at h;unfold aL.txt;cases j:p.l[k]? with
 |none=>rw[j] at h;cases h
 |some t=>rw[j] at h;exact o.word t (mG j) (by simpa using h)
theorem wv {s t:ByteArray}(h:(s==t)=true):s=t:=by cases s;cases t;have h':(_==_)=true:=h;congr 1;exact eq_of_beq h
theorem Dj {s:ByteArray}(h:fu s=false):gD sl s=none:=by
 unfold gD;rw[Option.map_eq_none_iff,List.find?_eq_none];intro x j he;have e:s=x.1:=wv he;have:fu x.1=true:=by unfold sl at j;simp only[fV,List.not_mem_nil,or_false] at j;rcases j with rfl|rfl|rfl|rfl|rfl<;>kernel_rfl
 rw[e,this] at h;cases h
theorem Jp {j w:World}{B B2 pb xb m k k2 m2:Nat}{p:aL}{A:Option Addr}{C:Nat}{x:aB}(h:St j B pb xb p A C m k x w)(I:B=j.heap.size)(o:cP j)(J:PB j B2 pb p A C k2 m2):cP w:=by
 have R:=J.box.cell 0;have Y:=J.box.cell 2;simp only[gc] at R Y;refine⟨fun i hi=>h.kept.cell (p:=⟨4,i,none⟩) ⟨?_,?_⟩ (o.1 i hi),fun i hi=>h.kept.cell (p:=⟨3,i,none⟩) ⟨?_,?_⟩ (o.2 i hi)⟩
 ·rintro rfl
  have:=o.1 0 (by decide);rw[R] at this;cases this
 ·rw[I];exact gx j _ (o.1 i hi)
 ·rintro rfl
  have:=o.2 2 (by decide);rw[Y] at this;cases this
 rw[I];exact gx j _ (o.2 i hi)
theorem Ji {j:Ending→World→Prop}{a:Act}{W:World}{g:Nat}{x:aB}{u v:Value}(o:a.tmps[2]? =some (.pointer (some ⟨g,0,none⟩)))(C:a.defers=[])
 (c:al W g 185 (di x u v)) (h:j (.returned (.agg (di x u v))) W):bodyPost prog Tryz.f195 j .ret a W:=by
 unfold di at c;obtain⟨I,r1,r2,J,R,Y,r6,r7,r8⟩:=c.c9;exact bodyPost_ret (by simp[results,Tryz.results195,go_sem,o,I,r1,r2,J,R,Y,r6,r7,r8,di]) C h
theorem rG (pb:Nat)(p:aL)(A:Option Addr)(C k m k0 m0:Nat)(x:aB)(w R W:World)(Y fA:Option Addr)(aC fC:Nat)(B xb:Nat)(a:Act)(ht:a.tmps[2]? =some (.pointer (some ⟨w.heap.size,0,none⟩)))(hd:a.defers=[])(hP:pe w pb p A C k0 m0)(a1:aa All w R)(hB:B=R.heap.size)
 (hs:St R B pb xb p A C m k x W) {cs:List Value} (I:al W w.heap.size 185 cs.toArray) (a6:cs.length=9) (hw:w.heap.size<R.heap.size) (ra:jw B W (.slice Y x.args.length aC) x.args) (rf:jw B W (.slice fA x.Nn.length fC) x.Nn) (l1:x.args.length≤1000) (l2:x.Nn.length≤1000):
 bodyPost prog Tryz.f195 (vW pb p A C k m x w) .ret a (((((((((W.setCell ⟨w.heap.size,0,none⟩ (.int .u8 x.kind)).setCell ⟨w.heap.size,1,none⟩ (.int .u8 x.op)).setCell ⟨w.heap.size,2,none⟩ (.string x.dst)).setCell ⟨w.heap.size,3,none⟩ (.string x.ref)).setCell ⟨w.heap.size,4,none⟩ (.string x.No)).setCell ⟨w.heap.size,5,none⟩ (.slice Y x.args.length aC)).setCell ⟨w.heap.size,6,none⟩ (.slice fA x.Nn.length fC)).setCell ⟨w.heap.size,7,none⟩ (.int .i64 x.num)).setCell ⟨w.heap.size,8,none⟩ (.int .i64 x.Np)):=by
 obtain⟨c0,c1,c2,c3,c4,c5,c6,c7,c8,rfl⟩:∃c0 c1 c2 c3 c4 c5 c6 c7 c8,cs=[c0,c1,c2,c3,c4,c5,c6,c7,c8]:=by
  match cs,a6 with
  | [a,b,c,d,e,f,g,h,i],_=>exact⟨a,b,c,d,e,f,g,h,i,rfl⟩
 have bF:=((((((((I.set 0 (.int .u8 x.kind)).set 1 (.int .u8 x.op)).set 2 (.string x.dst)).set 3 (.string x.ref)).set 4 (.string x.No)).set 5 (.slice Y x.args.length aC)).set 6 (.slice fA x.Nn.length fC)).set 7 (.int .i64 x.num)).set 8 (.int .i64 x.Np);have J:=((((((((((aa.refl (fun b=>b≠w.heap.size) W).setCell (p:=⟨w.heap.size,0,none⟩) (.inl fun h=>h rfl) (.int .u8 x.kind)).setCell (p:=⟨w.heap.size,1,none⟩) (.inl fun h=>h rfl) (.int .u8 x.op)).setCell (p:=⟨w.heap.size,2,none⟩) (.inl fun h=>h rfl) (.string x.dst)).setCell (p:=⟨w.heap.size,3,none⟩) (.inl fun h=>h rfl) (.string x.ref)).setCell (p:=⟨w.heap.size,4,none⟩) (.inl fun h=>h rfl) (.string x.No)).setCell (p:=⟨w.heap.size,5,none⟩) (.inl fun h=>h rfl) (.slice Y x.args.length aC)).setCell (p:=⟨w.heap.size,6,none⟩) (.inl fun h=>h rfl) (.slice fA x.Nn.length fC)).setCell (p:=⟨w.heap.size,7,none⟩) (.inl fun h=>h rfl) (.int .i64 x.num)).setCell (p:=⟨w.heap.size,8,none⟩) (.inl fun h=>h rfl) (.int .i64 x.Np));simp only[ga] at bF;generalize World.setCell _ ⟨w.heap.size,8,none⟩ _=WF at*;have a7:pb≠w.heap.size:=fun e=>by have j:=hs.par.box;subst e;exact absurd rfl (j.ne I (by decide))
 have a8:=ay ra J fun g hg=>by have:=(au ra hg).1;show g≠w.heap.size;omega
 have b0:=ay rf J fun g hg=>by have:=(au rf hg).1;show g≠w.heap.size;omega
 have b1:=J.size;have kw:aa (fun b=>b≠pb) w WF:=by have j:aa (fun b=>b≠pb∧b<w.heap.size) w WF:=((a1.all.trans (hs.kept.mono fun b o=>⟨o.1,by have:=o.2;omega⟩)).trans (J.mono fun b o=>by have:=o.2;show b≠w.heap.size;omega));exact⟨j.os,j.output,j.size,fun i hi hS=>j.block i hi ⟨hS,hi⟩⟩
 refine Ji ht hd bF ⟨⟨kw,?_⟩,_,_,rfl,yT a8 (by omega) fun b j h2=>⟨by omega,h2⟩,yT b0 (by omega) fun b j h2=>⟨by omega,h2⟩⟩;exact⟨hs.par.box.kept J a7,bW.wide (fun b o=>⟨o.1,by have:=kw.size;omega⟩) (bW.keep (kw.mono fun b o=>o.1) hP.toks),hs.par.le⟩
theorem Ap (pb:Nat)(p:aL)(A:Option Addr)(C k m k':Nat)(x:aB)(w:World)(h:pe w pb p A C k m)(hp:p.Ok)(hl:cP w)(hm:m<4096)(hr:mP p k=some (x,k')):
 Calls prog 195 #[.pointer (some ⟨pb,0,none⟩)] w (vW pb p A C k' (m+1) x w):=by
 obtain⟨Z,hZ⟩:∃Z:Value,Z=.string dQ:=⟨_,rfl⟩;obtain⟨W0,b7⟩:=eQ (w.alloc (.cells (di ui (.slice none 0 0) (.slice none 0 0)) 185));have b8:aa All w W0:=by rw[b7];exact kR.alloc _
 have bR:al W0 w.heap.size 185 (di ui (.slice none 0 0) (.slice none 0 0)):=by rw[b7];exact al.new _ _ _
 have e4:=(h.keep b8).pb;have a7:=oH h;have H0:=J5 b7 b8 bR e4 (hl.keep b8);have j0:=hp.len;clear h hl b7 b8 bR e4;go_enter func195,ntmps195;go_upto_region 1 with fail;rw[show w.alloc (.cells #[.int .u8 0,.int .u8 0,.string ⟨#[]⟩,.string ⟨#[]⟩,.string ⟨#[]⟩,.slice none 0 0,.slice none 0 0,.int .i64 0,.int .i64 0] 185)=W0 from H0.1.symm];go_wp2_with fail;refine(wP pb p A C k m W0 H0.2.2.2.1.pat hp).mono ?_;rintro e w1 ⟨rfl,b5⟩;go_upto_region 2 with fail;have k2:aa All w1 (w1.alloc (.cells #[.int .u8 0,.int .u8 0,.string ⟨#[]⟩,.string ⟨#[]⟩,.string ⟨#[]⟩,.slice none 0 0,.slice none 0 0,.int .i64 0,.int .i64 (p.pos k)] 185)):=kR.alloc _;have b2:al (w1.alloc (.cells #[.int .u8 0,.int .u8 0,.string ⟨#[]⟩,.string ⟨#[]⟩,.string ⟨#[]⟩,.slice none 0 0,.slice none 0 0,.int .i64 0,.int .i64 (p.pos k)] 185)) w1.heap.size 185 #[.int .u8 0,.int .u8 0,.string ⟨#[]⟩,.string ⟨#[]⟩,.string ⟨#[]⟩,.slice none 0 0,.slice none 0 0,.int .i64 0,.int .i64 (p.pos k)]:=al.new _ _ _;obtain⟨xb,e5⟩:=eQ w1.heap.size;obtain⟨B,hB⟩:=eQ W0.heap.size;rw[←e5] at b2⊢;generalize w1.alloc _=W2 at*;have h5:B≤xb:=by have:=b5.size;omega
 have H2:=oH (show St W0 B pb xb p A C m k {ui with Np:=p.pos k} W2 from⟨(b5.trans k2).all,by rw[hB];exact H0.2.2.2.1.kept (b5.trans k2) fun _ _=>trivial,none,0,none,0,b2,⟨by simp[ui],.inl ⟨rfl,rfl⟩⟩,⟨by simp[ui],.inl ⟨rfl,rfl⟩⟩,(fun _ h=>by cases h),h5⟩);have HL:=J2 (H0.2.2.2.2.keep (b5.trans k2)) hB;clear b5 k2 b2 e5 hB;go_wp2_with fail;refine(ES W2).mono ?_;rintro e w3 ⟨b,rfl,d8,e0⟩;have H3:=oH (H2.out.all e0);have e6:=J2 (HL.1.keep e0) d8;clear e0 d8;go_wp2_with fail;refine(dS pb p A C k m 0 w3 H3.out.par.pat hp (by omega)).mono ?_;rintro e w4 ⟨rfl,b9⟩;rw[cJ];have e7:=qG (p.txt k) (by have:=(lu hp k).2;unfold maxLen;omega) (e6.2.kept b9);obtain⟨t,ht⟩:=eQ ((gD sl (p.txt k)).getD .nilFunc);rw[←ht] at e7;have HT:=oH ht;have H4:=J2 (H3.out.all b9) (e6.1.keep b9);clear b9 ht;go_upto_region 3 with fail;clear e7;go_wp2_with fail;refine(km pb p A C k m 1 w4 H4.1.par.pat hp).mono ?_;rintro e w5 ⟨rfl,e1⟩;have H5:=J2 (H4.1.all e1) (H4.2.keep e1);clear e1;rcases mQ hr with ⟨hq,c9,hv⟩|⟨hq,e8⟩
 ·have e9:=Dj (KS hp hq);have b0:t=.nilFunc:=by rw[HT.out,e9];rfl
  subst b0;rw[hq];have heq:((p.txt (k+1)).toList==[61])=true:=by rw[nh _ _ MJ (by kernel_rfl),be c9]
  have HQ:=J3 hq c9 hv;have e2:=lX (p:=p) (k:=k+1) (by rw[c9];decide);clear e9 c9 hr hv;go_wp2_with fail;refine(km pb p A C k m 1 w5 H5.1.par.pat hp).mono ?_;rintro e w6 ⟨rfl,Y⟩;rw[hq];have H6:=J2 (H5.1.all Y) (H5.2.keep Y);clear Y hq;go_wp2_with fail;refine(dS pb p A C k m 1 w6 H6.1.par.pat hp (by omega)).mono ?_;rintro e w7 ⟨rfl,e3⟩;have H7:=J2 (H6.1.all e3) (H6.2.keep e3);clear e3;have I:=H7.1.par.box;have b3:=I.cell 3;have f3:=I.free 3;simp only[gc] at b3;clear I;go_wp2_with fail;refine(gY pb m 4096 w7 hm).mono ?_;rintro e w8 ⟨rfl,rfl⟩;go_upto_region 10 with fail;clear b3 f3 heq;have h8:=H7.1.code;generalize w7.setCell _ _=W8 at*;have H8:=J2 h8 h8;clear h8;go_wp2_with fail;refine(dE pb p A C k (m+1) W8 H8.1.par.pat hp HQ.1).mono ?_;rintro e W9 ⟨rfl,h0⟩;have H9:=oH (H8.1.moved h0);clear h0;obtain⟨u2,h6⟩:=H9.out.Ni.cellAt 2 (by decide);have h7:=H9.out.Ni.free 2;go_upto_region 15 with fail;have h2:=H9.out.set 2 (.string (p.txt k)) (x':= {ui with dst:=p.txt k,Np:=p.pos k}) rfl rfl (fun _ _=>rfl);generalize W9.setCell _ _=h9 at*;have h3:=oH h2;clear h2 h6 h7;go_wp2_with fail;refine(fm pb p A C (k+1) (m+1) ⟨#[61]⟩ h9 h3.out.par.pat hp HQ.2.1 (by decide)).mono ?_;rintro e i1 ⟨rfl,d9⟩;have d7:=oH (h3.out.moved d9);clear d9;go_wp2_with fail;refine(AG B pb xb p A C (k+1+1) (m+1) k' {ui with dst:=p.txt k,Np:=p.pos k} x i1 d7.out.par d7.out.Ni hp (Jp d7.out HL.2 H0.2.2.2.2 H0.2.2.2.1) rfl rfl HQ.2.2).mono ?_;rintro e b1 ⟨rfl,J⟩;have R:=oH (iz d7.out J);clear J;go_upto_region 17 with fail;have h4:=oH (Eo HQ.2.2);obtain⟨aA,aC,fA,fC,o,ra,rf,a1,a6⟩:=R.out.Ni;have b4:w.heap.size≠pb:=fun e=>by have h1:=a7.out.box.lt;omega
  have j:=H0.2.2.1.kept R.out.kept ⟨b4,by rw[HL.2];exact H0.2.2.1.lt⟩;unfold di at j;have c0:=o.cell 0;have t0:=j.cell 0;have f0:=j.free 0;have c1:=o.cell 1;have t1:=j.cell 1;have f1:=j.free 1;have c2:=o.cell 2;have t2:=j.cell 2;have f2:=j.free 2;have c3:=o.cell 3;have t3:=j.cell 3;have f3:=j.free 3;have c4:=o.cell 4;have t4:=j.cell 4;have f4:=j.free 4;have c5:=o.cell 5;have t5:=j.cell 5;have f5:=j.free 5;have c6:=o.cell 6;have t6:=j.cell 6;have f6:=j.free 6;have c7:=o.cell 7;have t7:=j.cell 7;have f7:=j.free 7;have c8:=o.cell 8;have t8:=j.cell 8;have f8:=j.free 8;simp only[gc] at c0 t0 c1 t1 c2 t2 c3 t3 c4 t4 c5 t5 c6 t6 c7 t7 c8 t8;have HE:=J3 j ra rf;clear o j ra rf a1 a6;go_wp2_with fail;exact rG pb p A C k' (m+1) k m x w W0 b1 aA fA aC fC B xb _ rfl rfl a7.out H0.2.1 HL.2 R.out HE.1 rfl H0.2.2.1.lt HE.2.1 HE.2.2 h4.1 h4.2
 rcases e8 with ⟨hw,b6,rfl,rfl⟩|⟨hw,b6,i6,i7,rfl,rfl⟩|⟨hw,b6,rfl,rfl⟩
 ·have b0:t=.func (.func 245) #[] #[]:=by rw[HT.out,hw];rfl
  subst b0;rw[hq];have HQ:=J2 hq hw;have e2:=lX (p:=p) (k:=k) (by rw[hw];decide);clear hr hw;go_wp2_with fail;refine(km pb p A C k m 1 w5 H5.1.par.pat hp).mono ?_;rintro e w6 ⟨rfl,Y⟩;rw[hq];have H6:=oH (H5.1.all Y);clear Y hq;have I:=H6.out.par.box;have b3:=I.cell 3;have f3:=I.free 3;simp only[gc] at b3;clear I;go_wp2_with fail;refine(gY pb m 4096 w6 hm).mono ?_;rintro e w8 ⟨rfl,rfl⟩;go_upto_region 10 with fail;clear b3 f3;have h8:=H6.out.code;generalize w6.setCell _ _=W8 at*;have H8:=oH h8;clear h8;have I:=H8.out.par.box;have b2:=I.cell 2;have f2:=I.free 2;simp only[gc] at b2;clear I;go_upto_region 12 with fail;have a8:dm pb p A C (k+1) (m+1) W8 (W8.setCell ⟨pb,2,none⟩ (.int .i64 ((k+1:Nat)))):=dm.of H8.out.par.pat kR (by omega);have H9:=oH (show St W0 B pb xb p A C (m+1) (k+1) {ui with Np:=p.pos k} (W8.setCell ⟨pb,2,none⟩ (.int .i64 ((k:Int)+1))) by simpa using H8.out.moved a8);clear a8;generalize W8.setCell _ _=W9 at*;clear b2 f2;go_wp2_with fail;refine(Cv B pb xb p A C (k+1) (m+1) {ui with Np:=p.pos k} W9 H9.out.par H9.out.Ni hp b6).mono ?_;rintro e b1 ⟨rfl,J⟩;have R:=oH (iz H9.out J);clear J;go_upto_region 13 with fail;obtain⟨aA,aC,fA,fC,o,ra,rf,a1,a6⟩:=R.out.Ni;have b4:w.heap.size≠pb:=fun e=>by have h1:=a7.out.box.lt;omega
  have j:=H0.2.2.1.kept R.out.kept ⟨b4,by rw[HL.2];exact H0.2.2.1.lt⟩;unfold di at j;have c0:=o.cell 0;have t0:=j.cell 0;have f0:=j.free 0;have c1:=o.cell 1;have t1:=j.cell 1;have f1:=j.free 1;have c2:=o.cell 2;have t2:=j.cell 2;have f2:=j.free 2;have c3:=o.cell 3;have t3:=j.cell 3;have f3:=j.free 3;have c4:=o.cell 4;have t4:=j.cell 4;have f4:=j.free 4;have c5:=o.cell 5;have t5:=j.cell 5;have f5:=j.free 5;have c6:=o.cell 6;have t6:=j.cell 6;have f6:=j.free 6;have c7:=o.cell 7;have t7:=j.cell 7;have f7:=j.free 7;have c8:=o.cell 8;have t8:=j.cell 8;have f8:=j.free 8;simp only[gc] at c0 t0 c1 t1 c2 t2 c3 t3 c4 t4 c5 t5 c6 t6 c7 t7 c8 t8;have HE:=J3 j ra rf;clear o j ra rf a1 a6;go_wp2_with fail;exact rG pb p A C (k+1+1) (m+1) k m {ui with Np:=p.pos k,kind:=11,ref:=p.txt (k+1)} w W0 b1 aA fA aC fC B xb _ rfl rfl a7.out H0.2.1 HL.2 R.out HE.1 rfl H0.2.2.1.lt HE.2.1 HE.2.2 (by show(0:Nat)≤1000;decide) (by show(0:Nat)≤1000;decide)
 ·have b0:t=.func (.func 246) #[] #[]:=by rw[HT.out,hw];rfl
  subst b0;rw[hq];have HQ:=J2 hq hw;have e2:=lX (p:=p) (k:=k) (by rw[hw];decide);clear hr hw;go_wp2_with fail;refine(km pb p A C k m 1 w5 H5.1.par.pat hp).mono ?_;rintro e w6 ⟨rfl,Y⟩;rw[hq];have H6:=oH (H5.1.all Y);clear Y hq;have I:=H6.out.par.box;have b3:=I.cell 3;have f3:=I.free 3;simp only[gc] at b3;clear I;go_wp2_with fail;refine(gY pb m 4096 w6 hm).mono ?_;rintro e w8 ⟨rfl,rfl⟩;go_upto_region 10 with fail;clear b3 f3;have h8:=H6.out.code;generalize w6.setCell _ _=W8 at*;have H8:=oH h8;clear h8;have I:=H8.out.par.box;have b2:=I.cell 2;have f2:=I.free 2;simp only[gc] at b2;clear I;go_upto_region 12 with fail;have a8:dm pb p A C (k+1) (m+1) W8 (W8.setCell ⟨pb,2,none⟩ (.int .i64 ((k+1:Nat)))):=dm.of H8.out.par.pat kR (by omega);have H9:=oH (show St W0 B pb xb p A C (m+1) (k+1) {ui with Np:=p.pos k} (W8.setCell ⟨pb,2,none⟩ (.int .i64 ((k:Int)+1))) by simpa using H8.out.moved a8);clear a8;generalize W8.setCell _ _=W9 at*;clear b2 f2;go_wp2_with fail;refine(xC B pb xb p A C (k+1) (m+1) {ui with Np:=p.pos k} W9 H9.out.par H9.out.Ni hp b6 i6 i7 (by show(0:Nat)≤1000;decide)).mono ?_;rintro e b1 ⟨rfl,J⟩;have R:=oH (iz H9.out J);clear J;go_upto_region 13 with fail;obtain⟨aA,aC,fA,fC,o,ra,rf,a1,a6⟩:=R.out.Ni;have b4:w.heap.size≠pb:=fun e=>by have h1:=a7.out.box.lt;omega
  have j:=H0.2.2.1.kept R.out.kept ⟨b4,by rw[HL.2];exact H0.2.2.1.lt⟩;unfold di at j;have c0:=o.cell 0;have t0:=j.cell 0;have f0:=j.free 0;have c1:=o.cell 1;have t1:=j.cell 1;have f1:=j.free 1;have c2:=o.cell 2;have t2:=j.cell 2;have f2:=j.free 2;have c3:=o.cell 3;have t3:=j.cell 3;have f3:=j.free 3;have c4:=o.cell 4;have t4:=j.cell 4;have f4:=j.free 4;have c5:=o.cell 5;have t5:=j.cell 5;have f5:=j.free 5;have c6:=o.cell 6;have t6:=j.cell 6;have f6:=j.free 6;have c7:=o.cell 7;have t7:=j.cell 7;have f7:=j.free 7;have c8:=o.cell 8;have t8:=j.cell 8;have f8:=j.free 8;simp only[gc] at c0 t0 c1 t1 c2 t2 c3 t3 c4 t4 c5 t5 c6 t6 c7 t7 c8 t8;have HE:=J3 j ra rf;clear o j ra rf a1 a6;go_wp2_with fail;exact rG pb p A C (k+1+1+1+1) (m+1) k m {ui with Np:=p.pos k,kind:=12,args:=[p.txt (k+1)],ref:=p.txt (k+1+1),No:=p.txt (k+1+1+1)} w W0 b1 aA fA aC fC B xb _ rfl rfl a7.out H0.2.1 HL.2 R.out HE.1 rfl H0.2.2.1.lt HE.2.1 HE.2.2 (by show(1:Nat)≤1000;decide) (by show(0:Nat)≤1000;decide)
 have b0:t=.func (.func 247) #[] #[]:=by rw[HT.out,hw];rfl
 subst b0;rw[hq];have HQ:=J2 hq hw;have e2:=lX (p:=p) (k:=k) (by rw[hw];decide);clear hr hw;go_wp2_with fail;refine(km pb p A C k m 1 w5 H5.1.par.pat hp).mono ?_;rintro e w6 ⟨rfl,Y⟩;rw[hq];have H6:=oH (H5.1.all Y);clear Y hq;have I:=H6.out.par.box;have b3:=I.cell 3;have f3:=I.free 3;simp only[gc] at b3;clear I;go_wp2_with fail;refine(gY pb m 4096 w6 hm).mono ?_;rintro e w8 ⟨rfl,rfl⟩;go_upto_region 10 with fail;clear b3 f3;have h8:=H6.out.code;generalize w6.setCell _ _=W8 at*;have H8:=oH h8;clear h8;have I:=H8.out.par.box;have b2:=I.cell 2;have f2:=I.free 2;simp only[gc] at b2;clear I;go_upto_region 12 with fail;have a8:dm pb p A C (k+1) (m+1) W8 (W8.setCell ⟨pb,2,none⟩ (.int .i64 ((k+1:Nat)))):=dm.of H8.out.par.pat kR (by omega);have H9:=oH (show St W0 B pb xb p A C (m+1) (k+1) {ui with Np:=p.pos k} (W8.setCell ⟨pb,2,none⟩ (.int .i64 ((k:Int)+1))) by simpa using H8.out.moved a8);clear a8;generalize W8.setCell _ _=W9 at*;clear b2 f2;go_wp2_with fail;refine(EW B pb xb p A C (k+1) (m+1) {ui with Np:=p.pos k} W9 H9.out.par H9.out.Ni hp b6 (by show(0:Nat)≤1000;decide)).mono ?_;rintro e b1 ⟨rfl,J⟩;have R:=oH (iz H9.out J);clear J;go_upto_region 13 with fail;obtain⟨aA,aC,fA,fC,o,ra,rf,a1,a6⟩:=R.out.Ni;have b4:w.heap.size≠pb:=fun e=>by have h1:=a7.out.box.lt;omega
 have j:=H0.2.2.1.kept R.out.kept ⟨b4,by rw[HL.2];exact H0.2.2.1.lt⟩;unfold di at j;have c0:=o.cell 0;have t0:=j.cell 0;have f0:=j.free 0;have c1:=o.cell 1;have t1:=j.cell 1;have f1:=j.free 1;have c2:=o.cell 2;have t2:=j.cell 2;have f2:=j.free 2;have c3:=o.cell 3;have t3:=j.cell 3;have f3:=j.free 3;have c4:=o.cell 4;have t4:=j.cell 4;have f4:=j.free 4;have c5:=o.cell 5;have t5:=j.cell 5;have f5:=j.free 5;have c6:=o.cell 6;have t6:=j.cell 6;have f6:=j.free 6;have c7:=o.cell 7;have t7:=j.cell 7;have f7:=j.free 7;have c8:=o.cell 8;have t8:=j.cell 8;have f8:=j.free 8;simp only[gc] at c0 t0 c1 t1 c2 t2 c3 t3 c4 t4 c5 t5 c6 t6 c7 t7 c8 t8;have HE:=J3 j ra rf;clear o j ra rf a1 a6;go_wp2_with fail;exact rG pb p A C (k+1+1) (m+1) k m {ui with Np:=p.pos k,kind:=13,args:=[p.txt (k+1)]} w W0 b1 aA fA aC fC B xb _ rfl rfl a7.out H0.2.1 HL.2 R.out HE.1 rfl H0.2.2.1.lt HE.2.1 HE.2.2 (by show(1:Nat)≤1000;decide) (by show(0:Nat)≤1000;decide)
end
end Go.Proofs.YtccbbkopmlnkpaaGreatDoor
