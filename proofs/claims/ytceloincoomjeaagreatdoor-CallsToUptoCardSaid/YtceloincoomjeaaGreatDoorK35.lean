/- Part 36 of the proof of CallsTo (its last part says what is proved). No condition. -/
import Derived.Test.YtceloincoomjeaaGreatDoorK34
namespace Go.Proofs.YtceloincoomjeaaGreatDoor
set_option maxRecDepth 100000
set_option maxHeartbeats 8000000
open Go.RowKit Go.Proofs.Tryz
theorem Fr (j o C I:Nat)(J R Y:Bool)(h0:j<256):(uj j o C I J R Y).2=1→128≤(uj j o C I J R Y).1→(uj j o C I J R Y).1=65533:=by
 unfold uj
 repeat' split
 all_goals first
  |(intro l Z;rfl)
  |(intro l Z;simp at l Z;omega)
  |(intro l Z;simp at l)
theorem Iz {s:ByteArray}{i:Nat}(j:(Utf8.decode s i).2=1)(l:128≤(Utf8.decode s i).1):(Utf8.decode s i).1=65533:=by rw[wE] at*;exact Fr _ _ _ _ _ _ _ (mb _ _) j l
def fG (s:ByteArray):Nat→Nat→Bool
 |0,_=>true
 |f+1,pos=>if pos<s.size then(ey ((aM s pos).1:Nat)||(pos !=0&&fY ((aM s pos).1:Nat)))&&fG s f (pos+(Utf8.decode s pos).2) else true
theorem pO {s:ByteArray}{f pos:Nat}(h:¬pos<s.size):fG s (f+1) pos=true:=by simp[fG,h]
theorem oy {s:ByteArray}{f pos:Nat}(h:pos<s.size):fG s (f+1) pos=((ey ((aM s pos).1:Nat)||(pos !=0&&fY ((aM s pos).1:Nat)))&&fG s f (pos+(Utf8.decode s pos).2)):=by simp[fG,h]
theorem JM (s:ByteArray):∀(f pos n:Nat),s.size+1≤pos+f→1≤f→n≤24→
 fH s f pos n=((decide (0<n)||decide (pos<s.size))&&decide (km s f pos<0)&&decide (n+eP s f pos≤24)&&fG s f pos):=by
 intro f;induction f with
 |zero=>intro pos n h1 I;omega
 |succ f J=>
  intro pos n hf _ hn;by_cases j:pos<s.size;·(
 have hp:=ks s pos j;rw[gK j,oI j,pW j,oy j];have l:=sD s pos;by_cases C:(Utf8.decode s pos).2=1∧128≤(Utf8.decode s pos).1
 ·have R:=Iz C.1 C.2;rw[ap C] at l;rw[l,R];have Y:ey ((65533:Nat):Int)=false:=by decide
  have Z:fY ((65533:Nat):Int)=false:=by decide
  rw[Y,Z];simp;omega
 rw[ae C] at l;rw[l];have I:¬(Utf8.decode s pos).2=0:=by omega
 rw[ae I];by_cases o:n+1≤24
 ·rw[J (pos+(Utf8.decode s pos).2) (n+1) (by omega) (by omega) o];rw[bL o,bL (show 0<n+1 by omega),bL j];have e:n+1+eP s f (pos+(Utf8.decode s pos).2)=n+(eP s f (pos+(Utf8.decode s pos).2)+1):=by omega
  rw[e];simp only[Bool.true_or,Bool.or_true,Bool.true_and,Bool.and_true];generalize (ey ↑(Utf8.decode s pos).fst||pos !=0&&fY ↑(Utf8.decode s pos).fst)=x;generalize decide (km s f (pos+(Utf8.decode s pos).snd)<0)=y;generalize decide (n+(eP s f (pos+(Utf8.decode s pos).snd)+1)≤24)=z;cases x<;>cases y<;>cases z<;>simp
 rw[cI o,cI (show¬n+(eP s f (pos+(Utf8.decode s pos).2)+1)≤24 by omega)];simp)
  rw[jQ j,qn j,rm j,pO j];simp[j];omega
theorem Gk (s:ByteArray):dW s=(decide (0<s.size)&&decide (km s (s.size+1) 0<0)&&decide (eP s (s.size+1) 0≤24)&&fG s (s.size+1) 0):=by unfold dW;rw[JM s (s.size+1) 0 0 (by omega) (by omega) (by omega)];simp
theorem Ja (s:ByteArray)(i:Nat):(aM s i).1≤2147483647:=by
 rw[BV];have j:=mb s i;have l:=mb s (i+1);have o:=mb s (i+2);have C:=mb s (i+3);generalize dt s i=I at*;generalize dt s (i+1)=J at*;generalize dt s (i+2)=R at*;generalize dt s (i+3)=Y at*;unfold IP
 repeat' split
 all_goals(simp;try omega)
theorem KM (s:ByteArray):∀(f pos:Nat),-1≤km s f pos:=by
 intro f;induction f with
 |zero=>intro pos;simp[km]
 |succ f l=>
  intro pos;by_cases j:pos<s.size
  ·rw[oI j];split;·omega
   exact l _
  rw[qn j];omega
theorem DX (s:ByteArray)(w:World)(hs:s.size≤140737488355328):Calls prog 94 #[.string s] w fun e w'=>e=.returned (.bool (dW s))∧aa All w w':=by
 have HN:=oH (Gk s);have a6:=fun w=>It s w hs;have a7:=fun w=>DY s w hs;have b7:=KM s (s.size+1) 0;generalize km s (s.size+1) 0=bd at*;generalize eP s (s.size+1) 0=rn at*;have HC:=J2 a6 a7;clear a6 a7;go_enter func94,ntmps94;by_cases h0:s.size=0
 ·have b2:((s.size:Int)==0)=true:=by rw[cy];omega
  have HR:=oH (show dW s=false by rw[HN.out,cI (by omega)];rfl);clear h0;go_wp2_with fail;go_ret;exact⟨by rw[HR.out];rfl,kR⟩
 have b2:((s.size:Int)==0)=false:=by rw[bE];omega
 by_cases hb:0≤bd
 ·have b3:decide (0≤bd)=true:=by simpa using hb
  have HR:=oH (show dW s=false by rw[HN.out,cI (show¬bd<0 by omega)];simp);clear hb;go_wp2_with (go_at_call 120;refine(HC.1 _).mono ?_;rintro e w1 ⟨rfl,o⟩;have H1:=oH o;clear o);go_ret;exact⟨by rw[HR.out];rfl,H1.out⟩
 have b3:decide (0≤bd)=false:=by simpa using hb
 by_cases hr:24<rn
 ·have b4:decide ((24:Int)<(rn:Int))=true:=by simp;omega
  have HR:=oH (show dW s=false by rw[HN.out,cI (show¬rn≤24 by omega)];simp);clear hb hr;go_wp2_with (first|(go_at_call 120;refine(HC.1 _).mono ?_;rintro e w1 ⟨rfl,o⟩;have H1:=oH o;clear o)|(go_at_call 121;refine(HC.2 _).mono ?_;rintro e w2 ⟨rfl,R⟩;have H2:=oH R;clear R));go_ret;exact⟨by rw[HR.out];rfl,H1.out.trans H2.out⟩
 have b4:decide ((24:Int)<(rn:Int))=false:=by simp;omega
 have HR:=oH (show dW s=fG s (s.size+1) 0 by rw[HN.out,bL (show bd<0 by omega),bL (show rn≤24 by omega),bL (show 0<s.size by omega)];rfl);clear hb hr;go_wp2_with (first|(go_at_call 120;refine(HC.1 _).mono ?_;rintro e w1 ⟨rfl,o⟩;have H1:=oH o;clear o)|(go_at_call 121;refine(HC.2 _).mono ?_;rintro e w2 ⟨rfl,R⟩;have H2:=oH (H1.out.trans R);clear R));clear b3 b4 b7 b2;go_loopg [3] (s.size+1) (fun g i wr=>∃pos f:Nat,g=s.size+1-pos∧i=.int .i64 pos∧pos≤s.size+4∧s.size+1≤pos+f∧1≤f∧aa All w wr∧fG s f pos=dW s);·exact⟨0,s.size+1,by omega,rfl,by omega,by omega,by omega,H2.out,HR.out.symm⟩
 obtain⟨pos,f,rfl,rfl,b9,hf,c0,l,J⟩:=hrel;obtain⟨f,rfl⟩:∃f',f=f'+1:=⟨f-1,by omega⟩;by_cases Y:pos<s.size;·(
 rw[oy Y] at J;have I:=sC s pos wr Y hs;have Z:=fun wn=>yN s pos wn Y hs;have b8:=Ja s pos;have h4:=rz s pos;have hp:=ks s pos Y;generalize (Utf8.decode s pos).2=kk at*;generalize aM s pos=rk at*;obtain⟨r,kf⟩:=rk;simp only at I J b8;have a8:=fun W=>zg (r:Int) W (by omega) (by omega);have b0:=fun W=>AT (r:Int) W;generalize ey (r:Int)=L at*;generalize fY (r:Int)=D at*;have C:=J5 l I Z a8 b0;clear l I Z a8 b0;cases L with
 |true=>
  have HL:=oH (show fG s f (pos+kk)=dW s by rw[←J];simp);clear J
  go_wp2_with (first
   |(go_at_call 123;refine C.2.1.mono ?_;rintro e wf ⟨rfl,j⟩;have HF:=oH (C.1.trans j);clear j)
   |(go_at_call 124;refine(C.2.2.2.1 _).mono ?_;rintro e w' ⟨rfl,rfl⟩)
   |(go_at_call 122;refine(C.2.2.1 _).mono ?_;rintro e wx ⟨rfl,a1⟩;have HX:=oH (HF.out.trans a1);clear a1))
  go_roundg (s.size+1-(pos+kk));·exact⟨pos+kk,f,rfl,rfl,by omega,by omega,by omega,HX.out,HL.out⟩
  omega
 |false=>
  by_cases b1:pos=0;·(
 have b5:((pos:Int)==0)=true:=by rw[cy];omega
 have HL:=oH (show dW s=false by rw[←J,b1];simp);clear J b1
 go_wp2_with (first
  |(go_at_call 123;refine C.2.1.mono ?_;rintro e wf ⟨rfl,j⟩;have HF:=oH (C.1.trans j);clear j)
  |(go_at_call 124;refine(C.2.2.2.1 _).mono ?_;rintro e w' ⟨rfl,rfl⟩))
 go_ret;exact⟨by rw[HL.out];rfl,HF.out⟩)
  have b5:((pos:Int)==0)=false:=by rw[bE];omega
  have b6:(pos !=0)=true:=by simpa using b1
  rw[b6] at J;clear b6;cases D with
  |false=>
   have HL:=oH (show dW s=false by rw[←J];simp);clear J
   go_wp2_with (first
    |(go_at_call 123;refine C.2.1.mono ?_;rintro e wf ⟨rfl,j⟩;have HF:=oH (C.1.trans j);clear j)
    |(go_at_call 124;refine(C.2.2.2.1 _).mono ?_;rintro e w' ⟨rfl,rfl⟩)
    |(go_at_call 125;refine(C.2.2.2.2 _).mono ?_;rintro e w' ⟨rfl,rfl⟩))
   go_ret;exact⟨by rw[HL.out];rfl,HF.out⟩
  |true=>
   have HL:=oH (show fG s f (pos+kk)=dW s by rw[←J];simp);clear J
   go_wp2_with (first
    |(go_at_call 123;refine C.2.1.mono ?_;rintro e wf ⟨rfl,j⟩;have HF:=oH (C.1.trans j);clear j)
    |(go_at_call 124;refine(C.2.2.2.1 _).mono ?_;rintro e w' ⟨rfl,rfl⟩)
    |(go_at_call 125;refine(C.2.2.2.2 _).mono ?_;rintro e w' ⟨rfl,rfl⟩)
    |(go_at_call 122;refine(C.2.2.1 _).mono ?_;rintro e wx ⟨rfl,a1⟩;have HX:=oH (HF.out.trans a1);clear a1))
   go_roundg (s.size+1-(pos+kk));·exact⟨pos+kk,f,rfl,rfl,by omega,by omega,by omega,HX.out,HL.out⟩
   omega)
 rw[pO Y] at J;have HL:=J2 J l;clear J l;go_wp2_with fail;go_ret;exact⟨by rw[←HL.1];rfl,HL.2⟩
theorem oA (s:ByteArray)(w:World)(J:s.size≤140737488355328):Calls prog 62 #[.string s] w fun e R=>e=.returned (.bool (aB s))∧aa All w R:=by
 have C:=fun w=>DX s w J;have hw:=fun w=>DZ s w;have I:aB s=(dW s&&!jv s):=rfl;generalize aB s=x at*;generalize dW s=Y at*;generalize jv s=wb at*;have l:=J3 C hw I;clear C hw I;cases Y with
 |true=>go_enter func62,ntmps62;go_wp2_with (first|(go_at_call 94;refine(l.1 _).mono ?_;rintro e Z ⟨rfl,j⟩;have H1:=oH j;clear j)|(go_at_call 95;refine(l.2.1 _).mono ?_;rintro e w2 ⟨rfl,o⟩;have H2:=oH o;clear o));go_ret;exact⟨by rw[l.2.2];simp,H1.out.trans H2.out⟩
 |false=>go_enter func62,ntmps62;go_wp2_with (go_at_call 94;refine(l.1 _).mono ?_;rintro e Z ⟨rfl,j⟩;have H1:=oH j;clear j);go_ret;exact⟨by rw[l.2.2];rfl,H1.out⟩
def Kd (s:ByteArray):Prop:=s.size≤140737488355328
def EC (l:List (ByteArray×Int)):Prop:=∀x∈l,Kd x.1
structure xF (p:aH):Prop where
 MZ:∀s∈p.MZ,Kd s
 Nb:EC p.Nb
 Na:EC p.Na
theorem BJ {S:Nat→Prop}{w:World}{A:Option Addr}{n c:Nat}{l:List (ByteArray×Int)}(h:kh S w (.slice A n c) l){i:Nat}{x:ByteArray×Int}(hi:l[i]? =some x):∃b o,A=some ⟨b,o,none⟩∧S b∧w.cell? ⟨b,o+i*2,none⟩=some (.string x.1)∧w.cell? ⟨b,o+i*2+1,none⟩=some (.int .i64 x.2)∧(Lit.int .i64 x.2).wf=true:=by obtain⟨a,cap,C,_,_,_,h⟩:=h;injection C with I R Y;subst I;obtain⟨b,o,cs,e,J,_,j,rfl,hw⟩:=h i _ hi;exact⟨b,o,e,J,j 0 _ rfl,j 1 _ rfl,hw⟩
theorem pU (S T:Nat→Prop)(v vl:Value)(p:aH)(l:List (ByteArray×Int))(w:World)(hv:dJ S w v p)(hl:kh T w vl l)(b6:EC l):
 Calls prog 64 #[v,vl] w fun e w'=>e=.returned (.bool (pB (cE p l)))∧aa All w w':=by
 obtain⟨a,b,c,d,rfl,h1,_⟩:=hv;obtain⟨a1,R,rfl,k1,k2,k3,_⟩:=h1;have b7:=hl;obtain⟨A,cap,rfl,g1,g2,g3,_⟩:=hl;unfold maxLen at g2 k2;have b8:aa All w (w.alloc (.cells #[.slice a1 p.MZ.length R,b,c,d,.int .i64 p.Nc] 26)):=(aa.refl All w).alloc _;have b9:al (w.alloc (.cells #[.slice a1 p.MZ.length R,b,c,d,.int .i64 p.Nc] 26)) w.heap.size 26 #[.slice a1 p.MZ.length R,b,c,d,.int .i64 p.Nc]:=al.new _ _ _;have HL:=J4 b7 b8 b9 b6;clear b7 b8 b9 b6;go_enter func64,ntmps64;by_cases c9:32<l.length
 ·have hd:decide ((32:Int)<l.length)=true:=by simp;omega
  have Y:=oH (au (P:=cE p l) fun h=>by have:=h.1;omega);go_wp2;go_ret;exact⟨by rw[Y.out];rfl,HL.2.1⟩
 have hd:decide ((32:Int)<l.length)=false:=by simp;omega
 go_wp2;go_loopg [5] l.length (fun g i wr=>∃k:Nat,k≤l.length∧g=l.length-k∧i=.int .i64 k∧aa All (w.alloc (.cells #[.slice a1 p.MZ.length R,b,c,d,.int .i64 p.Nc] 26)) wr∧∀(i:Nat) y,i<k→l[i]? =some y→lj p l i y);·exact⟨0,by omega,by omega,rfl,kR,fun i y hi=>by omega⟩
 obtain⟨k,j,rfl,rfl,b3,b1⟩:=hrel;have HA:=J3 b3 b1 (HL.2.1.trans b3);clear b3 b1;by_cases c5:k<l.length;·(
 obtain⟨x,hx⟩:=eG c5;have a6:∀wn,aa All wr wn→∃bb o,A=some ⟨bb,o,none⟩∧wn.cell? ⟨bb,o+k*2,none⟩=some (.string x.1)∧wn.cell? ⟨bb,o+k*2+1,none⟩=some (.int .i64 x.2)∧wn.cell? ⟨w.heap.size,0,none⟩=some (.slice a1 p.MZ.length R):=fun wn b0=>by obtain⟨bb,o,e,_,c1,c2,_⟩:=BJ (aX.keep (S:=T) (HA.2.2.trans b0).all HL.1) hx;exact⟨bb,o,e,c1,c2,(HL.2.2.1.kept (HA.1.trans b0) trivial).cell 0⟩
 obtain⟨bb,o,rfl,_⟩:=a6 wr kR;have Z:∀wn,aa All wr wn→wn.cell? ⟨bb,o+k*2,none⟩=some (.string x.1)∧wn.cell? ⟨bb,o+k*2+1,none⟩=some (.int .i64 x.2)∧wn.cell? ⟨w.heap.size,0,none⟩=some (.slice a1 p.MZ.length R):=fun wn b0=>by obtain⟨b',o',e,q⟩:=a6 wn b0;cases e;exact q
 have a7:=fun wn (j:aa All wr wn)=>(xg T _ l x.1 wn (aX.keep (HA.2.2.trans j).all HL.1)).mono (R':=fun e w'=>e=.returned (.int .i64 (fD l x.1))∧aa All wn w') fun e w' h=>⟨h.1,h.2▸aa.refl All _⟩;have b4:=fun wn=>oA x.1 wn (HL.2.2.2 x (mG hx));have b2:¬lj p l k x→pB (cE p l)=false:=fun h=>au fun h'=>h (h'.2 k x hx);have J:lj p l k x↔aB x.1=true∧fD l x.1=k∧0≤x.2∧x.2<p.MZ.length:=Iff.rfl;have a8:=sn hx HA.2.1;have b5:=sq hx;have c0:=kT (fun y:ByteArray×Int=>y.1.toList==x.1.toList) l;rw[show gJ (fun y:ByteArray×Int=>y.1.toList==x.1.toList) l=fD l x.1 from rfl] at c0;have c3:(Lit.int .i64 x.2).wf=true:=by obtain⟨_,_,_,_,_,_,h⟩:=BJ (aX.keep (S:=T) HA.2.2.all HL.1) hx;exact h
 obtain⟨w1,w2⟩:=rs c3;obtain⟨x1,x2⟩:=x;simp only at Z a7 b4 J w1 w2 b5 c0;generalize aB x1=nm at*;generalize fD l x1=r at*;have C:=J5 Z a7 b4 b2 a8;clear a6 Z a7 b4 b2 a8 c3 hx;cases nm with
 |false=>
  have Y:=oH (C.2.2.2.1 fun h=>by rw[J] at h;exact Bool.noConfusion h.1);clear J;go_wp2;refine R0 37 wr (fun i=>if i=5 then some (·=.bool false) else none) ?_;iterate 4 refine O0 ?_
  refine O4 C.1 ?_;refine O5 (v:=.bool false) (fun wn j hp=>⟨_,_,by(skip;go_simp<;>with_reducible rfl),(((fun wn (_:aa All wr wn)=>C.2.2.1 wn) wn j).mono fun e w' h=>⟨h.1,j.trans h.2,fun _ h=>by cases h⟩)⟩) ?_;iterate 2 refine O0 ?_
  iterate 9 refine O2 ?_
  iterate 2 refine O0 ?_
  iterate 6 refine O2 ?_
  iterate 2 refine O0 ?_
  iterate 9 refine O2 ?_
  refine O0 ?_;refine aG fun wt I hF=>?_;have HT:=oH I;clear I hF;simp only[dK];have HN:=oH (HA.2.2.trans HT.out);go_wp2_with fail;go_ret;exact⟨by rw[Y.out];rfl,HN.out⟩
 |true=>
  by_cases e1:r=(k:Int);·(
 have c6:(r !=(k:Int))=false:=by simpa using e1
 by_cases e2:x2<0;·(
 have c7:decide (x2<0)=true:=by simpa using e2
 have Y:=oH (C.2.2.2.1 fun h=>by rw[J] at h;omega);have HE:=oH e1;clear e1 J;go_wp2;refine R0 37 wr (fun i=>if i=14 then some (·=.int .i64 r) else if i=5 then some (·=.bool true) else none) ?_;iterate 4 refine O0 ?_
 refine O4 C.1 ?_;refine O5 (v:=.bool true) (fun wn j hp=>⟨_,_,by(skip;go_simp<;>with_reducible rfl),(((fun wn (_:aa All wr wn)=>C.2.2.1 wn) wn j).mono fun e w' h=>⟨h.1,j.trans h.2,fun _ h=>by cases h⟩)⟩) ?_;iterate 7 refine O0 ?_
 refine O4 C.1 ?_;refine O5 (v:=.int .i64 r) (fun wn j hp=>⟨_,_,by(skip;go_simp<;>with_reducible rfl),(((fun wn j=>C.2.1 wn j) wn j).mono fun e w' h=>⟨h.1,j.trans h.2,fun _ h=>by cases h⟩)⟩) ?_;iterate 8 refine O0 ?_
 refine O4 C.1 ?_;iterate 3 refine O0 ?_
 iterate 9 refine O2 ?_
 refine O0 ?_;refine aG fun wt I hF=>?_;have HT:=oH I;clear I hF;simp only[dK];have HN:=oH (HA.2.2.trans HT.out);go_wp2_with fail;go_ret;exact⟨by rw[Y.out];rfl,HN.out⟩)
 have c7:decide (x2<0)=false:=by simpa using e2
 by_cases e3:(p.MZ.length:Int)≤x2;·(
 have c8:decide ((p.MZ.length:Int)≤x2)=true:=by simpa using e3
 have Y:=oH (C.2.2.2.1 fun h=>by rw[J] at h;omega);have HE:=oH e1;clear e1 J;go_wp2;refine R0 37 wr (fun i=>if i=14 then some (·=.int .i64 r) else if i=5 then some (·=.bool true) else none) ?_;iterate 4 refine O0 ?_
 refine O4 C.1 ?_;refine O5 (v:=.bool true) (fun wn j hp=>⟨_,_,by(skip;go_simp<;>with_reducible rfl),(((fun wn (_:aa All wr wn)=>C.2.2.1 wn) wn j).mono fun e w' h=>⟨h.1,j.trans h.2,fun _ h=>by cases h⟩)⟩) ?_;iterate 7 refine O0 ?_
 refine O4 C.1 ?_;refine O5 (v:=.int .i64 r) (fun wn j hp=>⟨_,_,by(skip;go_simp<;>with_reducible rfl),(((fun wn j=>C.2.1 wn j) wn j).mono fun e w' h=>⟨h.1,j.trans h.2,fun _ h=>by cases h⟩)⟩) ?_;iterate 8 refine O0 ?_
 refine O4 C.1 ?_;iterate 7 refine O0 ?_
 refine O4 C.1 ?_;refine O0 ?_;refine O4 C.1 ?_;iterate 3 refine O0 ?_
 refine aG fun wt I hF=>?_;have HT:=oH I;clear I hF;simp only[dK];have HN:=oH (HA.2.2.trans HT.out);go_wp2_with fail;go_ret;exact⟨by rw[Y.out];rfl,HN.out⟩)
 have c8:decide ((p.MZ.length:Int)≤x2)=false:=by simpa using e3
 have c4:=oH (C.2.2.2.2 (J.2 ⟨rfl,e1,by omega,by omega⟩));have HE:=oH e1;clear e1 J;go_wp2;refine R0 37 wr (fun i=>if i=14 then some (·=.int .i64 r) else if i=5 then some (·=.bool true) else none) ?_;iterate 4 refine O0 ?_
 refine O4 C.1 ?_;refine O5 (v:=.bool true) (fun wn j hp=>⟨_,_,by(skip;go_simp<;>with_reducible rfl),(((fun wn (_:aa All wr wn)=>C.2.2.1 wn) wn j).mono fun e w' h=>⟨h.1,j.trans h.2,fun _ h=>by cases h⟩)⟩) ?_;iterate 7 refine O0 ?_
 refine O4 C.1 ?_;refine O5 (v:=.int .i64 r) (fun wn j hp=>⟨_,_,by(skip;go_simp<;>with_reducible rfl),(((fun wn j=>C.2.1 wn j) wn j).mono fun e w' h=>⟨h.1,j.trans h.2,fun _ h=>by cases h⟩)⟩) ?_;iterate 8 refine O0 ?_
 refine O4 C.1 ?_;iterate 7 refine O0 ?_
 refine O4 C.1 ?_;refine O0 ?_;refine O4 C.1 ?_;iterate 3 refine O0 ?_
 refine aG fun wt I hF=>?_;have HT:=oH I;clear I hF;simp only[dK];have HN:=oH (HA.1.trans HT.out);go_wp2_with fail;go_roundg (l.length-(k+1));·exact⟨k+1,by omega,rfl,by go_num,HN.out,c4.out⟩
 omega)
  have c6:(r !=(k:Int))=true:=by simpa using e1
  have Y:=oH (C.2.2.2.1 fun h=>by rw[J] at h;exact e1 h.2.1);clear J e1;go_wp2;refine R0 37 wr (fun i=>if i=14 then some (·=.int .i64 r) else if i=5 then some (·=.bool true) else none) ?_;iterate 4 refine O0 ?_
  refine O4 C.1 ?_;refine O5 (v:=.bool true) (fun wn j hp=>⟨_,_,by(skip;go_simp<;>with_reducible rfl),(((fun wn (_:aa All wr wn)=>C.2.2.1 wn) wn j).mono fun e w' h=>⟨h.1,j.trans h.2,fun _ h=>by cases h⟩)⟩) ?_;iterate 7 refine O0 ?_
  refine O4 C.1 ?_;refine O5 (v:=.int .i64 r) (fun wn j hp=>⟨_,_,by(skip;go_simp<;>with_reducible rfl),(((fun wn j=>C.2.1 wn j) wn j).mono fun e w' h=>⟨h.1,j.trans h.2,fun _ h=>by cases h⟩)⟩) ?_;iterate 4 refine O0 ?_
  iterate 6 refine O2 ?_
  iterate 2 refine O0 ?_
  iterate 9 refine O2 ?_
  refine O0 ?_;refine aG fun wt I hF=>?_;have HT:=oH I;clear I hF;simp only[dK];have HN:=oH (HA.2.2.trans HT.out);go_wp2_with fail;go_ret;exact⟨by rw[Y.out];rfl,HN.out⟩)
 obtain rfl:k=l.length:=by omega
 have HY:=oH (av (P:=cE p l) ⟨by omega,fun i y hy=>HA.2.1 i y (by obtain⟨h,_⟩:=lS.1 hy;exact h) hy⟩);go_wp2;go_ret;exact⟨by rw[HY.out];rfl,HA.2.2⟩
theorem ut (S:Nat→Prop)(v:Value)(p:aH)(w:World)(hv:dJ S w v p)(b6:xF p):
 Calls prog 39 #[v] w fun e w'=>e=.returned (.bool (pB (dD p)))∧aa All w w':=by
 have b7:=hv;obtain⟨a,b,c,d,rfl,h1,h2,h3,h4,h5⟩:=hv;have c8:=h1;have c9:=h2;obtain⟨a1,a7,rfl,k1,k2,k3,_⟩:=h1;obtain⟨a2,a8,rfl,m1,m2,m3,_⟩:=h2;unfold maxLen at k2 m2;have d7:aa All w (w.alloc (.cells #[.slice a1 p.MZ.length a7,.slice a2 p.up.length a8,c,d,.int .i64 p.Nc] 26)):=(aa.refl All w).alloc _;have d8:al (w.alloc (.cells #[.slice a1 p.MZ.length a7,.slice a2 p.up.length a8,c,d,.int .i64 p.Nc] 26)) w.heap.size 26 #[.slice a1 p.MZ.length a7,.slice a2 p.up.length a8,c,d,.int .i64 p.Nc]:=al.new _ _ _;have c2:=fun wn (C:aa All w wn)=>us S _ p.up wn (dU.keep C.all c9);have c3:=fun wn s (C:aa All w wn)=>AX S _ p s wn (cB.keep C.all b7);have d9:=fun wn (C:aa All w wn)=>pU S S _ _ p p.Nb wn (cB.keep C.all b7) (aX.keep C.all h3) b6.Nb;have c5:=fun wn (C:aa All w wn)=>pU S S _ _ p p.Na wn (cB.keep C.all b7) (aX.keep C.all h4) b6.Na;obtain⟨d1,d2⟩:=rs h5;have Y:=J7 c8 c3 d9 c5 d7 d8 b6;have b8:=oH c2;obtain⟨ai,e0,rfl,_⟩:=h3;obtain⟨ao,e1,rfl,_⟩:=h4;clear c8 c9 c3 d9 c5 d7 d8 c2 b7 h5 b6;go_enter func39,ntmps39;by_cases j:p.MZ.length=p.up.length;·(
 have h9:((p.MZ.length:Int) !=(p.up.length:Int))=false:=by simp[j]
 by_cases hL:ue p.up;·(
 have c7:=oH (av hL);by_cases e2:p.Nc<1
 ·have i0:decide (p.Nc<1)=true:=by simpa using e2
  have R:=oH (au (P:=dD p) fun h=>by have:=h.2.2.1;omega);have HE:=oH j;clear j hL;go_wp2_with (go_at_call 61;refine(b8.out _ Y.2.2.2.2.1).mono ?_;rw[c7.out];rintro e w1 ⟨rfl,I⟩;have l:=Y.2.2.2.2.2.1.kept I trivial;have c4:=l.cell 4;simp only[gc] at c4;have H1:=J2 I l;clear I l);go_ret;exact⟨by rw[R.out];rfl,Y.2.2.2.2.1.trans H1.1⟩
 have i0:decide (p.Nc<1)=false:=by simpa using e2
 by_cases e3:64<p.Nc
 ·have i1:decide (64<p.Nc)=true:=by simpa using e3
  have R:=oH (au (P:=dD p) fun h=>by have:=h.2.2.2.1;omega);have HE:=oH j;clear j hL;go_wp2_with (go_at_call 61;refine(b8.out _ Y.2.2.2.2.1).mono ?_;rw[c7.out];rintro e w1 ⟨rfl,I⟩;have l:=Y.2.2.2.2.2.1.kept I trivial;have c4:=l.cell 4;simp only[gc] at c4;have H1:=J2 I l;clear I l);go_ret;exact⟨by rw[R.out];rfl,Y.2.2.2.2.1.trans H1.1⟩
 have i1:decide (64<p.Nc)=false:=by simpa using e3
 have HP:Hid ((∀(i:Nat) s,p.MZ[i]? =some s→pk p i s)∧cE p p.Nb∧cE p p.Na↔dD p):=oH ⟨fun h=>⟨j,hL,by omega,by omega,h.1,h.2.1,h.2.2⟩,fun h=>⟨h.2.2.2.2.1,h.2.2.2.2.2.1,h.2.2.2.2.2.2⟩⟩;have HE:=oH j;clear j hL;go_wp2_with (go_at_call 61;refine(b8.out _ Y.2.2.2.2.1).mono ?_;rw[c7.out];rintro e w1 ⟨rfl,I⟩;have l:=Y.2.2.2.2.2.1.kept I trivial;have c4:=l.cell 4;have c0:=l.cell 0;simp only[gc] at c4 c0;have H1:=J2 I l;clear I l);clear c4 c0;go_loopg [3] p.MZ.length (fun g i wr=>∃k:Nat,k≤p.MZ.length∧g=p.MZ.length-k∧i=.int .i64 k∧aa All w1 wr∧∀(i:Nat) s,i<k→p.MZ[i]? =some s→pk p i s);·exact⟨0,by omega,by omega,rfl,kR,fun i s hi=>by omega⟩
 obtain⟨k,C,rfl,rfl,b9,c6⟩:=hrel;have e4:=(Y.2.2.2.2.1.trans H1.1).trans b9;have l:=H1.2.kept b9 trivial;obtain⟨i5,i6,i7,j0,j1⟩:=l.c5;have HA:=J4 b9 c6 e4 l;clear b9 c6 e4 l;by_cases e5:k<p.MZ.length;·(
 obtain⟨s,hs⟩:=eG e5;have a6:∀wn,aa All wr wn→∃bb o,a1=some ⟨bb,o,none⟩∧wn.cell? ⟨bb,o+k,none⟩=some (.string s):=fun wn c1=>by obtain⟨bb,o,e,_,hc⟩:=Bs (ax.keep (S:=S) (HA.2.2.1.trans c1).all Y.1) hs;exact⟨bb,o,e,hc⟩
 obtain⟨bb,o,rfl,_⟩:=a6 wr kR;have b0:∀wn,aa All wr wn→wn.cell? ⟨w.heap.size,0,none⟩=some (.slice (some ⟨bb,o,none⟩) p.MZ.length a7)∧wn.cell? ⟨w.heap.size,1,none⟩=some (.slice a2 p.up.length a8)∧wn.cell? ⟨w.heap.size,2,none⟩=some (.slice ai p.Nb.length e0)∧wn.cell? ⟨w.heap.size,3,none⟩=some (.slice ao p.Na.length e1)∧wn.cell? ⟨w.heap.size,4,none⟩=some (.int .i64 p.Nc)∧wn.cell? ⟨bb,o+k,none⟩=some (.string s):=fun wn c1=>by obtain⟨b',o',e,q⟩:=a6 wn c1;cases e;have b4:=HA.2.2.2.kept c1 trivial;exact⟨b4.cell 0,b4.cell 1,b4.cell 2,b4.cell 3,b4.cell 4,q⟩
 have i2:=kT (fun x:ByteArray=>x.toList==s.toList) p.MZ;rw[show gJ (fun x:ByteArray=>x.toList==s.toList) p.MZ=eZ p s from rfl] at i2;have e6:=fun wn (C:aa All wr wn)=>Y.2.1 wn s (HA.2.2.1.trans C);have b1:pk p k s↔aB s=true∧eZ p s=k:=Iff.rfl;have e7:=fun wn=>oA s wn (Y.2.2.2.2.2.2.MZ s (mG hs));generalize aB s=nm at*;generalize eZ p s=r at*;have J:=J4 b0 e6 e7 hs;clear e6 e7 hs a6 b0;cases nm with
 |false=>
  have R:=oH (au (P:=dD p) fun h=>by have:=b1.1 ((HP.2 h).1 k s J.2.2.2);exact Bool.noConfusion this.1);clear b1;go_wp2_with fail;refine R0 18 wr (fun i=>if i=5 then some (·=.bool false) else none) ?_;refine O0 ?_;refine O4 J.1 ?_;iterate 2 refine O0 ?_
  refine O4 J.1 ?_;refine O5 (v:=.bool false) (fun wn C hp=>⟨_,_,by(skip;go_simp<;>with_reducible rfl),(((fun wn (_:aa All wr wn)=>J.2.2.1 wn) wn C).mono fun e w' h=>⟨h.1,C.trans h.2,fun _ h=>by cases h⟩)⟩) ?_;iterate 2 refine O0 ?_
  iterate 9 refine O2 ?_
  refine O0 ?_;refine aG fun wt Z hF=>?_;have HT:=oH Z;clear Z hF;simp only[dK];have HN:=oH (HA.2.2.1.trans HT.out);go_wp2_with fail;go_ret;exact⟨by rw[R.out];rfl,HN.out⟩
 |true=>
  by_cases b2:r=(k:Int);·(
 have hx:(r !=(k:Int))=false:=by simpa using b2
 have e8:Hid (∀(i:Nat) t,i<k+1→p.MZ[i]? =some t→pk p i t):=oH fun i t hi ht=>by
  by_cases e:i=k;·subst e;rw[J.2.2.2] at ht;cases ht;exact b1.2 ⟨rfl,b2⟩
  exact HA.2.1 i t (by omega) ht
 clear b1 b2;go_wp2_with fail;refine R0 18 wr (fun i=>if i=14 then some (·=.int .i64 r) else if i=5 then some (·=.bool true) else none) ?_;refine O0 ?_;refine O4 J.1 ?_;iterate 2 refine O0 ?_
 refine O4 J.1 ?_;refine O5 (v:=.bool true) (fun wn C hp=>⟨_,_,by(skip;go_simp<;>with_reducible rfl),(((fun wn (_:aa All wr wn)=>J.2.2.1 wn) wn C).mono fun e w' h=>⟨h.1,C.trans h.2,fun _ h=>by cases h⟩)⟩) ?_;iterate 2 refine O0 ?_
 refine O4 J.1 ?_;refine O0 ?_;refine O4 J.1 ?_;iterate 2 refine O0 ?_
 refine O4 J.1 ?_;refine O5 (v:=.int .i64 r) (fun wn C hp=>⟨_,_,by(skip;go_simp<;>with_reducible rfl),(((fun wn C=>J.2.1 wn C) wn C).mono fun e w' h=>⟨h.1,C.trans h.2,fun _ h=>by cases h⟩)⟩) ?_;iterate 3 refine O0 ?_
 refine aG fun wt Z hF=>?_;have HT:=oH Z;clear Z hF;simp only[dK];have HN:=oH (HA.1.trans HT.out);go_wp2_with fail;go_roundg (p.MZ.length-(k+1));·exact⟨k+1,by omega,rfl,by go_num,HN.out,e8.out⟩
 omega)
  have hx:(r !=(k:Int))=true:=by simpa using b2
  have R:=oH (au (P:=dD p) fun h=>by have:=b1.1 ((HP.2 h).1 k s J.2.2.2);exact b2 this.2);clear b1 b2;go_wp2_with fail;refine R0 18 wr (fun i=>if i=14 then some (·=.int .i64 r) else if i=5 then some (·=.bool true) else none) ?_;refine O0 ?_;refine O4 J.1 ?_;iterate 2 refine O0 ?_
  refine O4 J.1 ?_;refine O5 (v:=.bool true) (fun wn C hp=>⟨_,_,by(skip;go_simp<;>with_reducible rfl),(((fun wn (_:aa All wr wn)=>J.2.2.1 wn) wn C).mono fun e w' h=>⟨h.1,C.trans h.2,fun _ h=>by cases h⟩)⟩) ?_;iterate 2 refine O0 ?_
  refine O4 J.1 ?_;refine O0 ?_;refine O4 J.1 ?_;iterate 2 refine O0 ?_
  refine O4 J.1 ?_;refine O5 (v:=.int .i64 r) (fun wn C hp=>⟨_,_,by(skip;go_simp<;>with_reducible rfl),(((fun wn C=>J.2.1 wn C) wn C).mono fun e w' h=>⟨h.1,C.trans h.2,fun _ h=>by cases h⟩)⟩) ?_;iterate 3 refine O0 ?_
  refine aG fun wt Z hF=>?_;have HT:=oH Z;clear Z hF;simp only[dK];have HN:=oH (HA.2.2.1.trans HT.out);go_wp2_with fail;go_ret;exact⟨by rw[R.out];rfl,HN.out⟩)
 obtain rfl:k=p.MZ.length:=by omega
 have b5:∀(i:Nat) s,p.MZ[i]? =some s→pk p i s:=fun i s hs=>HA.2.1 i s (lS.1 hs).1 hs;have e9:=oH (kC (P:=dD p) (Q:=cE p p.Nb∧cE p p.Na) ⟨fun h=>(HP.2 h).2,fun h=>HP.1 ⟨b5,h⟩⟩);have HX:=oH (AK (P:=cE p p.Nb) (Q:=cE p p.Na));have h0:=Y.2.2.1 wr HA.2.2.1;have h6:=Y.2.2.2.1;generalize pB (cE p p.Nb)=bi at*;generalize pB (cE p p.Na)=bo at*;have J:=J2 h0 h6;clear h0 h6 b5 C e5;cases bi with
 |false=>go_wp2_with fail;refine J.1.mono ?_;rintro e w2 ⟨rfl,b3⟩;have H2:=oH b3;clear b3;go_wp2_with fail;go_ret;exact⟨by rw[e9.out,HX.out];rfl,HA.2.2.1.trans H2.out⟩
 |true=>go_wp2_with fail;refine J.1.mono ?_;rintro e w2 ⟨rfl,b3⟩;have h7:=HA.2.2.2.kept b3 trivial;obtain⟨j2,j3,j4,j5,j6⟩:=h7.c5;have H2:=oH (HA.2.2.1.trans b3);clear b3 h7;go_wp2_with fail;refine(J.2 w2 H2.out).mono ?_;rintro e w3 ⟨rfl,h8⟩;have H3:=oH (H2.out.trans h8);clear h8;go_wp2_with fail;go_ret;exact⟨by rw[e9.out,HX.out,Bool.true_and];rfl,H3.out⟩)
 have i4:=oH (au hL);have R:=oH (au (P:=dD p) fun h=>hL h.2.1);have HE:=oH j;clear j hL;go_wp2_with (go_at_call 61;refine(b8.out _ Y.2.2.2.2.1).mono ?_;rw[i4.out];rintro e w1 ⟨rfl,I⟩;have H1:=oH I;clear I);go_ret;exact⟨by rw[R.out];rfl,Y.2.2.2.2.1.trans H1.out⟩)
 have h9:((p.MZ.length:Int) !=(p.up.length:Int))=true:=by simp;omega
 have R:=oH (au (P:=dD p) fun h=>j h.1);clear j;go_wp2_with fail;go_ret;exact⟨by rw[R.out];rfl,Y.2.2.2.2.1⟩
end Go.Proofs.YtceloincoomjeaaGreatDoor
