/- Part 11 of the proof (its last part says what is proved). No condition. -/
import Derived.Deep.RegionHeld3
import Derived.Test.YtgdlhckhpolnnaaGreatDoorK9
namespace Go.Proofs.YtgdlhckhpolnnaaGreatDoor
set_option maxRecDepth 100000
set_option maxHeartbeats 8000000
open Go.RowKit Go.Proofs.Tryz
def Ai (s:ByteArray)(i:Nat):Nat:=(s.get! i).toNat
def Ut (c:Nat):Bool:=c==32||c==9||c==10
def Ht (s:ByteArray):Nat→Nat→Nat
 |0,p=>p
 |f+1,p=>if p<s.size then(if Ut (Ai s p) then Ht s f (p+1) else p) else p
def Vw (s:ByteArray):Nat→Nat→Nat
 |0,p=>p
 |f+1,p=>if p<s.size then(if ey (Utf8.decode s p).1||fY (Utf8.decode s p).1 then Vw s f (p+(Utf8.decode s p).2) else p) else s.size
def Ul (s:ByteArray):Nat:=Vw s (s.size+1) 0
def TP (s:ByteArray):Nat→Nat→Nat→Option Nat
 |0,_,_=>none
 |f+1,p,n=>if p<s.size then(if fY (Utf8.decode s p).1 then TP s f (p+(Utf8.decode s p).2) (10*n+((Utf8.decode s p).1-48)) else none) else some n
def ia (s:ByteArray):Option Nat:=if s.size=0∨19<s.size∨(Ai s 0=48∧1<s.size) then none else(TP s (s.size+1) 0 0).filter fun n=>decide (n<9223372036854775808)
def Wb (c:Nat):Bool:=c==40||c==41||c==123||c==125||c==91||c==93||c==44||c==58||c==61
def TQ (s:ByteArray):Nat:=if jv s then 2 else if dW s then 1 else if(ia s).isSome then 3 else 0
structure Um where
 kind:Nat
 beg:Nat
 fin:Nat
def Vu (s:ByteArray)(at':Nat):Option (Option Um):=
 let p:=Ht s (s.size+1) at'
 if p<s.size then
  if Wb (Ai s p) then some (some ⟨4,p,p+1⟩)
  else if Ai s p=45 then none
  else
   let n:=Ul (s.extract p s.size)
   if TQ (s.extract p (p+n))=0 then none else some (some ⟨TQ (s.extract p (p+n)),p,p+n⟩)
 else some none
def Tt (s:ByteArray):Nat→Nat→Option (List Um)
 |0,_=>none
 |f+1,at'=>match Vu s at' with
  |none=>none
  |some none=>some []
  |some (some t)=>(Tt s f t.fin).map fun l=>t::l
def Ab (s:ByteArray):Bool:=s.data.toList.all fun b=>decide (b.toNat<128)&&b !=35
structure cr where
 s:ByteArray
 l:List Um
def cr.txt (p:cr)(k:Nat):ByteArray:=match p.l[k]? with|some t=>p.s.extract t.beg t.fin|none=>gR
def cr.is (p:cr)(k kind:Nat):Bool:=match p.l[k]? with|some t=>t.kind==kind|none=>false
def cr.pos (p:cr)(k:Nat):Nat:=match p.l[k]? with|some t=>t.beg|none=>p.s.size
def bs (l:List UInt8):ByteArray:=⟨l.toArray⟩
def Yu:ByteArray:=bs [40]
def Yn:ByteArray:=bs [41]
def YB:ByteArray:=bs [123]
def XA:ByteArray:=bs [125]
def Yv:ByteArray:=bs [91]
def Yw:ByteArray:=bs [93]
def Ym:ByteArray:=bs [44]
def XW:ByteArray:=bs [58]
def YA:ByteArray:=bs [61]
def UO:ByteArray:=bs [99,111,110,115,116]
def WZ:ByteArray:=bs [112,104,105]
def XX:ByteArray:=bs [106,117,109,112]
def Ww:ByteArray:=bs [98,114,97,110,99,104]
def Wx:ByteArray:=bs [114,101,116,117,114,110]
def YH:ByteArray:=bs [102,110]
def Ty (p:cr)(kind k:Nat):Option (ByteArray×Nat):=if p.is k kind then some (p.txt k,k+1) else none
def TR (p:cr)(s:ByteArray)(k:Nat):Option Nat:=if p.txt k=s then some (k+1) else none
def UH (p:cr):Nat→Nat→Nat→List ByteArray→List ByteArray→Option (List ByteArray×List ByteArray×Nat)
 |0,_,_,_,_=>none
 |f+1,n,k,fr,j=>if p.is k 1=true∧64≤n then none else do
  let(a,k)←Ty p 1 k
  let k←TR p XW k
  let(b,k)←Ty p 1 k
  if p.txt k=Ym then UH p f (n+1) (k+1) (fr++[a]) (j++[b]) else some (fr++[a],j++[b],k)
def Va:cX:=⟨0,0,gR,gR,gR,[],[],0,0⟩
def Uz (p:cr)(x:cX)(k:Nat):Option (cX×Nat):=
 if p.txt k=UO then do
  let(s,k)←Ty p 3 (k+1)
  let n←ia s
  some ({x with kind:=1,num:=n},k)
 else if p.txt k=WZ then do
  let k←TR p Yv (k+1)
  let(fr,j,k)←UH p 65 0 k [] []
  let k←TR p Yw k
  some ({x with kind:=3,Nh:=fr,args:=j},k)
 else none
def Yl (p:cr)(x:cX)(k:Nat):Option (cX×Nat):=
 if p.txt k=XX then do
  let(s,k)←Ty p 1 (k+1)
  some ({x with kind:=11,ref:=s},k)
 else if p.txt k=Ww then do
  let(a,k)←Ty p 1 (k+1)
  let(s,k)←Ty p 1 k
  let(t,k)←Ty p 1 k
  some ({x with kind:=12,args:=[a],ref:=s,Ni:=t},k)
 else if p.txt k=Wx then do
  let(a,k)←Ty p 1 (k+1)
  some ({x with kind:=13,args:=[a]},k)
 else none
def Tp (p:cr)(k:Nat):Bool:=p.is k 1&&decide (p.txt (k+1)=XW)
theorem TG (s:ByteArray)(i:Nat)(h:i<s.size):Ai s i=(s[i]' h).toNat:=by unfold Ai;rw[show s.get! i=s[i]' h by simpa using get_at s i h]
theorem TI {s:ByteArray}(h:Ab s=true){i:Nat}(hi:i<s.size):Ai s i<128∧Ai s i≠35∧Utf8.decode s i=(Ai s i,1):=by have h1:=List.all_eq_true.1 h (s[i]' hi) (by show s.data[i]∈_;exact Array.getElem_mem_toList hi);simp only[gE,qal,bne_iff_ne] at h1;rw[TG s i hi];refine⟨h1.1,fun e=>h1.2 ?_,decode_ascii s i hi h1.1⟩;exact UInt8.toNat_inj.1 (by rw[e];rfl)
theorem VP {s:ByteArray}{f p:Nat}(h:¬p<s.size):Vw s (f+1) p=s.size:=by simp[Vw,h]
theorem Vk {s:ByteArray}{f p:Nat}(h:p<s.size):Vw s (f+1) p=if ey (Utf8.decode s p).1||fY (Utf8.decode s p).1 then Vw s f (p+(Utf8.decode s p).2) else p:=by simp[Vw,h]
theorem Xv (s:ByteArray)(w:World):Calls prog 145 #[.string s] w fun e w'=>e=.returned (.int .i64 (Ul s))∧aa All w w':=by
 have hit:(w.iter s 0).heap[w.heap.size]? =some (.stringIter s 0):=World.iter_heap w s 0;have a8:aa All w (w.iter s 0):=(aa.refl _ w).alloc _;have H0:=J2 hit a8;clear hit a8;go_enter func145,ntmps145;go_wp2;go_loopg [] (s.size+1) (fun g wr=>∃pos f:Nat,g=s.size+1-pos∧s.size+1≤pos+f∧1≤f∧wr.heap[w.heap.size]? =some (.stringIter s pos)∧aa All w wr∧Vw s f pos=Ul s);·exact⟨0,s.size+1,by omega,by omega,by omega,H0.1,H0.2,rfl⟩
 obtain⟨pos,f,rfl,hf,b4,I,o,C⟩:=hrel;by_cases J:pos<s.size;·(
 obtain⟨f,rfl⟩:∃f',f=f'+1:=⟨f-1,by omega⟩;rw[Vk J] at C;have b0:=fun ty=>Jw (P:=prog) wr w.heap.size s pos ty I J;have b3:=ks s pos J;have hB:w.heap.size<wr.heap.size:=by
  rcases Nat.lt_or_ge w.heap.size wr.heap.size with h|h;·exact h
  rw[jK h] at I;cases I
 have b1:aa All w (ji wr w.heap.size s (pos+(Utf8.decode s pos).2)):=xm o (.inr (cf _));have a1:=Bl (W:=wr) (s:=s) (p:=pos+(Utf8.decode s pos).2) hB;have b2:(ji wr w.heap.size s (pos+(Utf8.decode s pos).2)).heap.size=wr.heap.size:=by simp[ji]
 have HQ:=J3 b1 a1 b2;clear b1 a1 b2 I o;generalize Utf8.decode s pos=rk at*;obtain⟨r,k⟩:=rk;have a6:=fun W=>Ay (r:Int) W;have a7:=fun W=>CM (r:Int) W;simp only at C b0 b3 HQ⊢;generalize ey (r:Int)=L at*;generalize fY (r:Int)=D at*;have HC:=J2 a6 a7;clear a6 a7;cases L with
 |true=>
  go_wp2_with (go_at_call 190;refine(HC.1 _).mono ?_;rintro e w1 ⟨rfl,j⟩;have R:=(show w1.heap[w.heap.size]? =some (.stringIter s (pos+k)) by rw[j.block w.heap.size (by have:=HQ.2.2;omega) trivial];exact HQ.2.1);have Y:=J2 (HQ.1.trans j) R;clear j R);go_roundg (s.size+1-(pos+k));·exact⟨pos+k,f,rfl,by omega,by omega,Y.2,Y.1,by simpa using C⟩
  omega
 |false=>
  cases D with
  |true=>
   go_wp2_with first
    |(go_at_call 190;refine(HC.1 _).mono ?_;rintro e w1 ⟨rfl,j⟩;have R:=(show w1.heap[w.heap.size]? =some (.stringIter s (pos+k)) by rw[j.block w.heap.size (by have:=HQ.2.2;omega) trivial];exact HQ.2.1);have Y:=J2 (HQ.1.trans j) R;clear j R)
    |(go_at_call 131;refine(HC.2 _).mono ?_;rintro e w2 ⟨rfl,rfl⟩)
   go_roundg (s.size+1-(pos+k));·exact⟨pos+k,f,rfl,by omega,by omega,Y.2,Y.1,by simpa using C⟩
   omega
  |false=>
   go_wp2_with first
    |(go_at_call 190;refine(HC.1 _).mono ?_;rintro e w1 ⟨rfl,j⟩;have Y:=oH (HQ.1.trans j);clear j)
    |(go_at_call 131;refine(HC.2 _).mono ?_;rintro e w2 ⟨rfl,rfl⟩)
   go_ret;exact⟨by rw[←C];simp,Y.out⟩)
 obtain⟨f,rfl⟩:∃f',f=f'+1:=⟨f-1,by omega⟩;rw[VP J] at C;have b0:=fun ty=>Gl (P:=prog) wr w.heap.size s pos ty I J;have Y:=oH o;clear o I;go_wp2;go_ret;exact⟨by rw[←C];rfl,Y.out⟩
theorem qel (s:ByteArray)(w:World)(hp:Ab s=true):Calls prog 31 #[.string s] w fun e w'=>e=.returned (.int .i64 (-1))∧aa All w w':=by
 have hit:(w.iter s 0).heap[w.heap.size]? =some (.stringIter s 0):=World.iter_heap w s 0;have R:aa All w (w.iter s 0):=(aa.refl _ w).alloc _;have H0:=J2 hit R;clear hit R;go_enter func31,ntmps31;go_wp2;go_loopg [] (s.size+1) (fun g wr=>∃pos:Nat,g=s.size+1-pos∧wr.heap[w.heap.size]? =some (.stringIter s pos)∧aa All w wr);·exact⟨0,by omega,H0.1,H0.2⟩
 obtain⟨pos,rfl,o,j⟩:=hrel;by_cases I:pos<s.size;·(
 have J:=fun ty=>Jw (P:=prog) wr w.heap.size s pos ty o I;obtain⟨h1,_,h3⟩:=TI hp I;have hB:w.heap.size<wr.heap.size:=by
  rcases Nat.lt_or_ge w.heap.size wr.heap.size with h|h;·exact h
  rw[jK h] at o;cases o
 rw[h3] at J;simp only at J;have Y:aa All w (ji wr w.heap.size s (pos+1)):=xm j (.inr (cf _));have C:=Bl (W:=wr) (s:=s) (p:=pos+1) hB;have HQ:=J2 Y C;clear Y C o j h3 hp;generalize Ai s pos=r at*;have hr:((r:Int)==65533)=false:=by rw[bE];omega
 go_wp2;go_roundg (s.size+1-(pos+1));·exact⟨pos+1,rfl,HQ.2,HQ.1⟩
 omega)
 have J:=fun ty=>Gl (P:=prog) wr w.heap.size s pos ty o I;have HK:=oH j;clear j o;go_wp2;go_ret;exact⟨rfl,HK.out⟩
theorem Vm {s:ByteArray}{f p:Nat}(h:¬p<s.size):Ht s (f+1) p=p:=by simp[Ht,h]
theorem UU {s:ByteArray}{f p:Nat}(h:p<s.size):Ht s (f+1) p=if Ut (Ai s p) then Ht s f (p+1) else p:=by simp[Ht,h]
theorem VS {s:ByteArray}:∀ {f p:Nat},p≤s.size→Ht s f p≤s.size
 |0,_,h=>h
 |f+1,p,h=>by
  by_cases j:p<s.size
  ·rw[UU j];split;·exact VS j
   exact h
  rw[Vm j];exact h
theorem WS (s:ByteArray)(p:Nat)(w:World)(R:Ab s=true)(a1:p≤s.size)(hs:s.size≤65536):Calls prog 143 #[.string s,.int .i64 p] w fun e w'=>e=.returned (.int .i64 (Ht s (s.size+1) p))∧w=w':=by
 go_enter func143,ntmps143;go_wp2;go_loopg [1] (s.size+1-p) (fun g m wr=>∃q f:Nat,g=s.size+1-q∧m=.int .i64 q∧q≤s.size∧s.size+1≤q+f∧w=wr∧Ht s f q=Ht s (s.size+1) p);·exact⟨p,s.size+1,rfl,rfl,a1,by omega,rfl,rfl⟩
 obtain⟨q,f,rfl,rfl,hq,hf,rfl,o⟩:=hrel;obtain⟨f,rfl⟩:∃f',f=f'+1:=⟨f-1,by omega⟩;by_cases j:q<s.size;·(
 obtain⟨h1,Y,_⟩:=TI R j;rw[UU j] at o;rw[TG s q j] at h1 Y o;have go:∀b:Nat,Ut b=true→(if Ut b=true then Ht s f (q+1) else q)=Ht s (s.size+1) p→Ht s f (q+1)=Ht s (s.size+1) p:=fun b hb h=>by rwa [ap hb] at h
 have HG:=oH go;clear go;have e0:((((s[q]' j).toNat:Nat):Int)==35)=false:=by rw[bE];omega
 by_cases C:(s[q]' j).toNat=32
 ·have J:=oH (HG.out _ (by rw[C];rfl) o);have e1:((((s[q]' j).toNat:Nat):Int)==32)=true:=by rw[cy];omega
  clear o C h1 Y R;go_wp2;go_roundg (s.size+1-(q+1));·exact⟨q+1,f,rfl,by go_num,by omega,by omega,rfl,J.out⟩
  omega
 have e1:((((s[q]' j).toNat:Nat):Int)==32)=false:=by rw[bE];omega
 by_cases h9:(s[q]' j).toNat=9
 ·have J:=oH (HG.out _ (by rw[h9];rfl) o);have e2:((((s[q]' j).toNat:Nat):Int)==9)=true:=by rw[cy];omega
  clear o C h9 h1 Y R;go_wp2;go_roundg (s.size+1-(q+1));·exact⟨q+1,f,rfl,by go_num,by omega,by omega,rfl,J.out⟩
  omega
 have e2:((((s[q]' j).toNat:Nat):Int)==9)=false:=by rw[bE];omega
 by_cases I:(s[q]' j).toNat=10
 ·have J:=oH (HG.out _ (by rw[I];rfl) o);have e3:((((s[q]' j).toNat:Nat):Int)==10)=true:=by rw[cy];omega
  clear o C h9 I h1 Y R;go_wp2;go_roundg (s.size+1-(q+1));·exact⟨q+1,f,rfl,by go_num,by omega,by omega,rfl,J.out⟩
  omega
 have e3:((((s[q]' j).toNat:Nat):Int)==10)=false:=by rw[bE];omega
 have hn:¬Ut (s[q]' j).toNat=true:=by simp[Ut,C,h9,I]
 rw[ae hn] at o;have J:=oH o;clear o C h9 I h1 Y R hn;go_wp2;go_ret;exact⟨by rw[←J.out];rfl,rfl⟩)
 rw[Vm j] at o;go_wp2;go_ret;exact⟨by rw[←o];rfl,rfl⟩
section
section
variable {ll:List (List Int)}
end
end






section
open Go
section
variable {P:Program} {ops:Array Oper} {md:Region.Mode} {S:World→Prop} {T:List Tmp} {F:Tmp→Value→World→Prop} {L:Nat→Option (Value→Prop)} {D:Nat→Bool} {X:List PanicEntry→World→Prop}
def xG (P:Program)(S:World→Prop)(T:List Tmp)(F:Tmp→Value→World→Prop)(X:List PanicEntry→World→Prop)(d:Bool)(V:Value→Prop)(o:Oper)(w:World):Result Next→Prop
 |.ok (.value u) w'=>d=false∧V u∧om S T F o w w' u
 |.ok .skip w'=>d=false∧V undef∧om S T F o w w' undef
 |.ok (.enter f args) w'=>Calls P f args w' (fun e j=>(d=false∧∃u,e=.returned u∧V u∧om S T F o w j u)∨∃C,e=.panicked C∧X C j)
 |_=>False
def fq (P:Program)(ops:Array Oper)(S:World→Prop)(T:List Tmp)(F:Tmp→Value→World→Prop)(X:List PanicEntry→World→Prop)(o:Oper)(j:Option (Value→Prop))(d:Bool)(a:Act)(V:Value→Prop):Prop:=
 (Region.wanted o (yielded ops a.tmps)=true∧j=none∧d=false∧∃v,V=(·=v)∧Iq P ops S T F o a v)∨
 (Region.wanted o (yielded ops a.tmps)=true∧j=some V∧(∀w,S w→ij ops T F o a w→xG P S T F X d V o w ((execOp a.eval o).run P w))∧∀w,S w→ij ops T F o a w→∃u w',V u∧om S T F o w w' u)∨
 (Region.wanted o (yielded ops a.tmps)=false∧d=false∧V=(·=undef)∧∀w,S w→ij ops T F o a w→∀d,o.dst=some d→d∈T→F d undef w)
theorem fq.unique {o:Oper}{I:Option (Value→Prop)}{d:Bool}{a:Act}{V Y:Value→Prop}(h:fq P ops S T F X o I d a V)(h':fq P ops S T F X o I d a Y){w:World}(hw:S w)(hp:ij ops T F o a w):V=Y:=by
 rcases h with ⟨h1,J,_,v,rfl,h3⟩|⟨h1,J,_⟩|⟨h1,_,rfl,_⟩
 ·rcases h' with ⟨j,C,_,v',rfl,k3⟩|⟨j,C,_⟩|⟨j,_⟩
  ·have R:=(h3 w hw hp).1;rw[(k3 w hw hp).1] at R;iterate 2 injection R with R
   subst R;rfl
  ·rw[J] at C;cases C
  rw[h1] at j;cases j
 ·rcases h' with ⟨j,C,_⟩|⟨j,C,_⟩|⟨j,_⟩
  ·rw[J] at C;cases C
  ·rw[J] at C;injection C
  rw[h1] at j;cases j
 rcases h' with ⟨j,_⟩|⟨j,_⟩|⟨_,_,rfl,_⟩;·rw[h1] at j;cases j
 ·rw[h1] at j;cases j
 rfl
theorem fq.some_ {o:Oper}{C:Option (Value→Prop)}{d:Bool}{a:Act}{V:Value→Prop}(h:fq P ops S T F X o C d a V){w:World}(hw:S w)(I:ij ops T F o a w):∃u w',V u∧om S T F o w w' u:=by
 rcases h with ⟨_,_,_,v,rfl,j⟩|⟨_,_,_,j⟩|⟨_,_,rfl,j⟩;·exact⟨v,w,rfl,hw,fun _ _ _ h=>h,(j w hw I).2⟩
 ·exact j w hw I
 exact⟨undef,w,rfl,hw,fun _ _ _ h=>h,j w hw I⟩
theorem fq.put {o:Oper}{j:Option (Value→Prop)}{b:Bool}{a:Act}{V:Value→Prop}{dst:Option Tmp}{u:Value}(C:∀cs b,o.op≠.select cs b)(h:∀d,dst=some d→d∉o.looksAt ops):
 fq P ops S T F X o j b (a.put dst u) V↔fq P ops S T F X o j b a V:=by
 unfold fq Iq;rw[execOp_put o C a dst u h,wanted_put o a dst u h];simp only[ij.put h]
def qM (P:Program)(md:Region.Mode)(ops:Array Oper)(S:World→Prop)(T:List Tmp)(F:Tmp→Value→World→Prop)(L:Nat→Option (Value→Prop))(D:Nat→Bool)(X:List PanicEntry→World→Prop)(n:Nat)(Q:Array Bool→Act→Prop):Nat→Bool→Array Bool→Act→Prop
 |0,dead,listed,a=>(∃w,S w∧eU ops T F listed a w)→(∀j∈Region.ready md ops listed,n≤j)∧(dead=false→Q listed a)
 |fuel+1,dead,listed,a=>(∃w,S w∧eU ops T F listed a w)→Region.ready md ops listed≠[]∧
  ∀i∈Region.ready md ops listed,i<n∧∀o,ops[i]? =some o→∃V,fq P ops S T F X o (L i) (D i) a V∧∀v,V v→qM P md ops S T F L D X n Q fuel (dead||D i) (listed.setIfInBounds i true) (a.put o.dst v)
theorem tA (a:Act)(d:Option Tmp)(v:Value):(a.put d v).defers=a.defers:=by cases d<;>rfl
theorem gM {n g:Nat}{Q:Array Bool→Act→Prop}{Q':Exit→Act→World→Prop}{J:Act→Prop}(hm:lk md ops T)(I:∀(i:Nat) (o:Oper) (a:Act) (v:Value),ops[i]? =some o→J a→J (a.put o.dst v))(R:∀a ch w,X ch w→J a→Q' (.panic ch) a w)
 (Y:∀listed a w,S w→eU ops T F listed a w→Q listed a→wpAny P md ops Q' g listed a w):∀(fuel:Nat) (listed:Array Bool) (a:Act) (w:World),J a→S w→eU ops T F listed a w→
 qM P md ops S T F L D X n Q fuel false listed a→wpAny P md ops Q' (fuel+g) listed a w
 |0,listed,a,w,_,hw,C,h=>by rw[cN];exact Y _ _ _ hw C ((h ⟨w,hw,C⟩).2 rfl)
 |fuel+1,listed,a,w,h0,hw,C,h=>by(
 rw[show fuel+1+g=(fuel+g)+1 by omega];refine⟨fun h1=>absurd h1 (h ⟨w,hw,C⟩).1,fun i hi=>?_⟩;obtain⟨_,o,j,_⟩:=mem_ready.1 hi;obtain⟨V,hy,hn⟩:=((h ⟨w,hw,C⟩).2 i hi).2 o j;have hp:=C.pre hm hi j;unfold wpOp;simp only[j];rcases hy with ⟨h1,_,hd,v,rfl,h3⟩|⟨h1,_,h3,_⟩|⟨h1,hd,rfl,h3⟩;·rw[ap h1];left;obtain⟨hr,a1⟩:=h3 w hw hp;unfold Oper.wp;rw[hr];have:=hn v rfl;rw[hd] at this;exact gM hm I R Y fuel _ _ w (I _ _ _ _ j h0) hw (C.next j ⟨hw,fun _ _ _ h=>h,a1⟩) this
 ·(
 rw[ap h1];left;have hr:=h3 w hw hp;unfold Oper.wp;generalize (execOp a.eval o).run P w=r at hr;cases r with
 |ok nx w'=>
  cases nx<;>simp only[xG] at hr<;>simp only[Oper.upon]
  case value u=>(have:=hn u hr.2.1;rw[hr.1] at this;exact gM hm I R Y fuel _ _ w' (I _ _ _ _ j h0) hr.2.2.1 (C.next j hr.2.2) this)
  case skip=>(have:=hn undef hr.2.1;rw[hr.1] at this;exact gM hm I R Y fuel _ _ w' (I _ _ _ _ j h0) hr.2.2.1 (C.next j hr.2.2) this)
  case enter f args=>(
 refine hr.mono ?_;rintro e a6 (⟨hd,u,rfl,hv,hg⟩|⟨ch,rfl,hx⟩)
 ·have:=hn u hv
  rw[hd] at this;exact gM hm I R Y fuel _ _ a6 (I _ _ _ _ j h0) hg.1 (C.next j hg) this
 exact R _ _ _ hx h0)
 |halt x w'=>simp only[xG] at hr)
 rw[ae (by rw[h1];exact oG)];have:=hn undef rfl;rw[hd] at this;exact gM hm I R Y fuel _ _ w (I _ _ _ _ j h0) hw (C.next j ⟨hw,fun _ _ _ h=>h,h3 w hw hp⟩) this)
theorem xx {n:Nat}{Q:Array Bool→Act→Prop}{i:Nat}{oi:Oper}{V:Value→Prop}(hm:lk md ops T)(hi:ops[i]? =some oi)(a7:∀(j:Nat) (o:Oper) cs b,ops[j]? =some o→o.op≠.select cs b)
 (hR:∀listed,HeadInv md ops n listed→∀i,i<n→listed.getD i true=false→∀j∈Region.ready md ops listed,j<n) (b1:i<n):
 ∀(fuel:Nat) (dead:Bool) (listed:Array Bool) (a:Act),HeadInv md ops n listed→
  (∀j Y,ops[j]? =some Y→j≠i→listed.getD j true=false→(∀e∈Y.after,Region.binds md e=true→e.on≠i)→oi.apart ops Y=true)→
  i∈Region.ready md ops listed→fq P ops S T F X oi (L i) (D i) a V→
  (∀v,V v→qM P md ops S T F L D X n Q fuel (dead||D i) (listed.setIfInBounds i true) (a.put oi.dst v))→qM P md ops S T F L D X n Q (fuel+1) dead listed a:=by
 intro fuel;induction fuel with
 |zero=>
  intro dead listed a inv _ hr hy H J;obtain⟨w0,b2,a6⟩:=J;obtain⟨v0,w1,b6,hg⟩:=hy.some_ b2 (a6.pre hm hr hi);have h1:=H v0 b6 ⟨w1,hg.1,a6.next hi hg⟩;have R:=(mem_ready.1 hr).1;refine⟨fun h=>(by rw[h] at hr;cases hr),fun j hj=>⟨hR _ inv i b1 R j hj,fun o ho=>?_⟩⟩;by_cases C:j=i;·subst C;rw[hi] at ho;cases ho;exact⟨V,hy,H⟩
  have h2:=h1.1 j (ready_mono hj C);have h3:=hR _ inv i b1 R j hj;omega
 |succ fuel ih=>
  intro dead listed a inv a8 hr hy H J;obtain⟨w0,b2,a6⟩:=J;obtain⟨v0,w1,b6,hg⟩:=hy.some_ b2 (a6.pre hm hr hi);have h1:=H v0 b6 ⟨w1,hg.1,a6.next hi hg⟩;have R:=(mem_ready.1 hr).1;refine⟨fun h=>(by rw[h] at hr;cases hr),fun j hj=>⟨hR _ inv i b1 R j hj,fun Y I=>?_⟩⟩;have c5:=hR _ inv i b1 R j hj;by_cases C:j=i;·subst C;rw[hi] at I;cases I;exact⟨V,hy,H⟩
  obtain⟨b0,e1,b4,b8⟩:=mem_ready.1 hj;rw[I] at b4;cases b4;have b9:∀e∈Y.after,Region.binds md e=true→e.on≠i:=fun e he hb heq=>by have h1:=b8 e he hb;rw[heq,getD_both R] at h1;cases h1
  obtain⟨a1,a2,a3⟩:=Oper.apart_spec (a8 j Y I C b0 b9);obtain⟨Vj,c6,_⟩:=(h1.2 j (ready_mono hj C)).2 Y I;have b5:=(fq.put (fun cs b=>a7 j Y cs b I) a1).1 c6;have c7:=a6.pre hm hj I
  have b3:∀k ok,ops[k]? =some ok→k≠i→(listed.setIfInBounds j true).getD k true=false→
   (∀e∈ok.after,Region.binds md e=true→e.on≠i)→oi.apart ops ok=true:=fun k ok hk c8 R c9=>by
   refine a8 k ok hk c8 ?_ c9;by_cases c0:j=k;·subst c0;exact b0
   rw[getD_set_ne true c0] at R;exact R
  refine⟨Vj,b5,fun u hu=>ih (dead||D j) (listed.setIfInBounds j true) (a.put Y.dst u) (inv.set hj c5) b3 (ready_mono hr (Ne.symm C)) ((fq.put (fun cs b=>a7 i oi cs b hi) a3).2 hy) fun v hv=>?_⟩;have comm:=Act.put_comm a v u a2;have key:(∃w,S w∧eU ops T F ((listed.setIfInBounds j true).setIfInBounds i true) ((a.put Y.dst u).put oi.dst v) w)→qM P md ops S T F L D X n Q fuel (dead||D j||D i) ((listed.setIfInBounds j true).setIfInBounds i true) ((a.put Y.dst u).put oi.dst v):=by(
 rintro⟨w2,d7,c1⟩;rw[←comm,Array.setIfInBounds_comm _ _ C] at c1⊢;have b7:(listed.setIfInBounds i true).getD j true=false:=by rw[getD_set_ne true (Ne.symm C)];exact b0
 have d8:=c1.less hm I b7;obtain⟨V2,d9,e0⟩:=((H v hv ⟨w2,d7,d8⟩).2 j (ready_mono hj C)).2 Y I;have c4:=(fq.put (fun cs b=>a7 j Y cs b I) a1).1 d9;have:=b5.unique c4 b2 c7;subst this;rw[Bool.or_right_comm];exact e0 u hu)
  cases fuel with
  |zero=>exact fun J=>key J J
  |succ fuel=>exact fun J=>key J J
def oC (P:Program)(ops:Array Oper)(S:World→Prop)(T:List Tmp)(F:Tmp→Value→World→Prop)(L:Nat→Option (Value→Prop))(D:Nat→Bool)(X:List PanicEntry→World→Prop)(Q:Act→Prop):List Oper→Nat→Bool→Act→Prop
 | [],_,dead,a=>dead=false→Q a
 |o::rest,k,dead,a=>∃V,fq P ops S T F X o (L k) (D k) a V∧∀v,V v→oC P ops S T F L D X Q rest (k+1) (dead||D k) (a.put o.dst v)
theorem tU {n g:Nat}{Q:Act→Prop}(hm:lk md ops T)(hs:Region.noSelect ops=true)
 (hR:∀listed,HeadInv md ops n listed→∀i,i<n→listed.getD i true=false→∀j∈Region.ready md ops listed,j<n):
 ∀(l:List Oper) (k:Nat) (dead:Bool) (listed:Array Bool) (a:Act),(∀j,j<l.length→l[j]? =ops[k+j]?)→k+l.length=n→HeadInv md ops n listed→(∀j,j<k→listed.getD j false=true)→
 Region.lexHead md ops g l.length k listed=true→oC P ops S T F L D X Q l k dead a→
 qM P md ops S T F L D X n (fun C a'=>Region.seqB md ops g n C=true∧(∀j,j<n→C.getD j false=true)∧Q a') l.length dead listed a
 | [],k,dead,listed,a,_,Y,_,hd,hB,h=>by
  have:k=n:=by simpa using Y
  subst this;have hB:Region.seqB md ops g k listed=true:=by simpa [Region.lexHead] using hB
  exact fun _=>⟨seqB_ready hB,fun I=>⟨hB,hd,h I⟩⟩
 |o::l,k,dead,listed,a,hl,Y,inv,hd,hB,h=>by(
 have h0:ops[k]? =some o:=by simpa using(hl 0 (by simp)).symm
 simp only[kI,Region.lexHead,gE] at hB;obtain⟨⟨hr,hf⟩,a1⟩:=hB;have J:k<n:=by simp only[kI] at Y;omega
 have R:k∈Region.ready md ops listed:=by simpa using hr
 obtain⟨V,hy,hK⟩:=h;have a6:k<listed.size:=by rw[inv.size];exact(mV.1 h0).1
 refine xx hm h0 (Region.noSelect_spec hs) hR J l.length dead listed a inv (Region.free_spec h0 hf) R hy
  fun v hv=>tU hm hs hR l (k+1) _ _ _ (fun j hj=>by have:=hl (j+1) (by simp;omega);simpa [Nat.add_assoc,Nat.add_comm 1 j] using this) (by simp only[kI] at Y;omega) (inv.set R J) (fun j hj=>?_) a1 (hK v hv)
 by_cases e:k=j;·subst e;simp[a6]
 rw[getD_set_ne false e];exact hd j (by omega))
def yZ (md:Region.Mode)(ops:Array Oper)(n:Nat):Bool:=
 Region.noSelect ops&&(n==ops.size||(decide (n<ops.size)&&Region.sinkB md ops n&&Region.chainB md ops n))&&Region.lexHead md ops (ops.size-n) n 0 (Array.replicate ops.size false)
def pM (ops:Array Oper)(T:List Tmp)(n:Nat):Bool:=T.all fun t=>(List.range n).any fun k=>match ops[k]? with|some x=>x.dst==some t|none=>false
theorem kG {id:Nat}{Q:Exit→Act→World→Prop}{a:Act}{w:World}{l:List Oper}(n:Nat)(S:World→Prop)(T:List Tmp)(F:Tmp→Value→World→Prop)(L:Nat→Option (Value→Prop))(D:Nat→Bool)(X:List PanicEntry→World→Prop)(J:Act→Prop)
 (hm:P.follows .mixedOrders=true) (hB:yZ .any l.toArray n=true) (hT:ns .any l.toArray T=true) (b1:pM l.toArray T n=true)
 (hS:S w.drew) (b2:J a) (hJ:∀(i:Nat) (o:Oper) (a:Act) (v:Value),l.toArray[i]? =some o→J a→J (a.put o.dst v)) (hX:∀R ch w,X ch w→J R→Q (.panic ch) R w) (h:oC P l.toArray S T F L D X (fun R=>∀w',S w'→(∀t∈T,∀v,R.tmps[t]? =some v→F t v w')→wpList P l.toArray Q (l.drop n) R w') (l.take n) 0 false a):(Code.region id l.toArray true).wp P Q a w:=by
 simp only[yZ,gE,Bool.or_eq_true,cy,qal] at hB;obtain⟨⟨a1,hn⟩,a6⟩:=hB;have a7:=sU hT;have b7:n≤l.length:=by rcases hn with h|⟨⟨h,_⟩,_⟩<;>simp at h<;>omega
 have C:(l.take n).length=n:=by simp;omega
 have a8:(l.drop n).length=l.toArray.size-n:=by simp
 have b0:HeadInv .any l.toArray n (Array.replicate l.toArray.size false):=
  ⟨by simp,fun j oj _ hl=>(by rw[getD_replicate_false] at hl;cases hl),fun t _ ht=>getD_in (by simpa using ht) (getD_replicate_false _ _)⟩
 have hR:∀listed,HeadInv .any l.toArray n listed→∀i,i<n→listed.getD i true=false→∀j∈Region.ready .any l.toArray listed,j<n:=by(
 intro listed inv i hi b3 j Y;obtain⟨_,oj,b4,_⟩:=mem_ready.1 Y;have b8:=(mV.1 b4).1;rcases hn with h|⟨⟨h,hs⟩,hc⟩;·omega
 rcases Nat.lt_or_ge j n with h'|h';·exact h'
 exact absurd Y (tail_waits hs hc h inv _ i rfl hi b3 j h'))
 have H:=tU (md:=.any) (g:=l.toArray.size-n) a7 a1 hR (l.take n) 0 false _ a (fun j Y=>by
  have b5:j<n:=by rw[C] at Y;exact Y
  simp[b5]) (by simpa using C) b0 (fun j Y=>by omega) (by rw[C];exact a6) h
 refine wp_region_any hm ?_;have:=gM (Q':=Q) (J:=J) (g:=l.toArray.size-n) a7 hJ hX (fun listed R w' b6 hf hL=>by
  have I:∀t∈T,∀v,R.tmps[t]? =some v→F t v w':=fun t ht v hv=>by(
 have h1:=List.all_eq_true.1 b1 t ht;obtain⟨k,hk,h2⟩:=mW.1 h1;cases hx:l.toArray[k]? with
 |none=>simp[hx] at h2
 |some x=>simp only[hx,cy] at h2;exact hf k x t (hL.2.1 k (fg.1 hk)) hx h2 ht v hv)
  have:=wpAny_of_seq (md:=.any) (Q':=Q) (l.drop n) n listed R w' (fun j=>by simp[List.getElem?_drop]) (by rw[a8];exact hL.1) (hL.2.2 w' b6 I);rwa [a8] at this) _ _ _ w.drew b2 hS (fun k o d hk=>by exfalso;rw[getD_replicate_false] at hk;cases hk) H
 rw[C,show n+(l.toArray.size-n)=l.toArray.size by omega] at this;exact this
theorem bq {id:Nat}{Q:Exit→Act→World→Prop}{a:Act}{w:World}{l:List Oper}(n:Nat)(S:World→Prop)(T:List Tmp)(F:Tmp→Value→World→Prop)(L:Nat→Option (Value→Prop))(D:Nat→Bool)(X:List PanicEntry→World→Prop)
 (hm:P.follows .mixedOrders=true) (hB:yZ .any l.toArray n=true) (I:ns .any l.toArray T=true) (o:pM l.toArray T n=true)
 (J:S w.drew) (R:∀j C w,X C w→j.defers=a.defers→Q (.panic C) j w) (h:oC P l.toArray S T F L D X (fun j=>∀w',S w'→(∀t∈T,∀v,j.tmps[t]? =some v→F t v w')→wpList P l.toArray Q (l.drop n) j w') (l.take n) 0 false a):(Code.region id l.toArray true).wp P Q a w:=
 kG n S T F L D X (fun j=>j.defers=a.defers) hm hB I o J rfl (fun _ _ _ _ _ h=>(tA _ _ _).trans h) R h
section steps
variable {Q:Act→Prop} {o:Oper} {rest:List Oper} {k:Nat} {dead:Bool} {a:Act}
theorem aG (h:Q a):oC P ops S T F L D X Q [] k dead a:=fun _=>h
theorem dG:oC P ops S T F L D X Q [] k true a:=fun h=>by cases h
theorem xy {v:Value}(hw:Region.wanted o (yielded ops a.tmps)=true)(hl:L k=none)(j:D k=false)(C:∀d,o.dst=some d→d∉T)(h:∀w,S w→ij ops T F o a w→(execOp a.eval o).run P w=.ok (.value v) w)(I:oC P ops S T F L D X Q rest (k+1) dead (a.put o.dst v)):oC P ops S T F L D X Q (o::rest) k dead a:=
 ⟨_,.inl ⟨hw,hl,j,v,rfl,fun w J R=>⟨h w J R,fun d j Y=>absurd Y (C d j)⟩⟩,fun _ e=>by subst e;rw[j,Bool.or_false];exact I⟩
theorem tW {v:Value}(hw:Region.wanted o (yielded ops a.tmps)=true)(hl:L k=some (·=v))(J:D k=false)(R:∀d,o.dst=some d→d∉T)
 (h:∀w,S w→ij ops T F o a w→∃f args,(execOp a.eval o).run P w=.ok (.enter f args) w∧Calls P f args w fun e w'=>e=.returned v∧S w'∧∀t∈T,∀v,F t v w→F t v w') (Y:oC P ops S T F L D X Q rest (k+1) dead (a.put o.dst v)):oC P ops S T F L D X Q (o::rest) k dead a:=
 ⟨_,.inr (.inl ⟨hw,hl,fun w C hp=>by obtain⟨f,args,hr,hc⟩:=h w C hp;rw[hr];exact hc.mono fun e w' ⟨h1,h2,h3⟩=>.inl ⟨J,v,h1,rfl,h2,h3,fun d j I=>absurd I (R d j)⟩,fun w C _=>⟨v,w,rfl,C,fun _ _ _ h=>h,fun d j I=>absurd I (R d j)⟩⟩),fun _ e=>by subst e;rw[J,Bool.or_false];exact Y⟩
theorem Ic (v:Value)(hw:Region.wanted o (yielded ops a.tmps)=true)(hl:L k=some (·=v))(J:D k=true)(R:∀d,o.dst=some d→d∉T)
 (h:∀w,S w→ij ops T F o a w→∃f args,(execOp a.eval o).run P w=.ok (.enter f args) w∧Calls P f args w fun e w'=>∃I,e=.panicked I∧X I w') (Y:oC P ops S T F L D X Q rest (k+1) true (a.put o.dst v)):oC P ops S T F L D X Q (o::rest) k dead a:=
 ⟨_,.inr (.inl ⟨hw,hl,fun w j hp=>by obtain⟨f,args,hr,hc⟩:=h w j hp;rw[hr];exact hc.mono fun e w' h'=>.inr h',fun w j _=>⟨v,w,rfl,j,fun _ _ _ h=>h,fun d C hT=>absurd hT (R d C)⟩⟩),fun _ e=>by subst e;rw[J,Bool.or_true];exact Y⟩
theorem Ey {V:Value→Prop}(hw:Region.wanted o (yielded ops a.tmps)=true)(hl:L k=some V)(C:D k=false)(h:∀w,S w→ij ops T F o a w→xG P S T F X false V o w ((execOp a.eval o).run P w))(j:∀w,S w→ij ops T F o a w→∃u w',V u∧om S T F o w w' u)(I:∀v,V v→oC P ops S T F L D X Q rest (k+1) dead (a.put o.dst v)):oC P ops S T F L D X Q (o::rest) k dead a:=
 ⟨V,.inr (.inl ⟨hw,hl,by rw[C];exact h,j⟩),fun v J=>by rw[C,Bool.or_false];exact I v J⟩
theorem Ib (hw:Region.wanted o (yielded ops a.tmps)=false)(j:D k=false)(C:∀d,o.dst=some d→d∉T)(I:oC P ops S T F L D X Q rest (k+1) dead (a.put o.dst undef)):oC P ops S T F L D X Q (o::rest) k dead a:=
 ⟨_,.inr (.inr ⟨hw,j,rfl,fun _ _ _ d e J=>absurd J (C d e)⟩),fun _ e=>by subst e;rw[j,Bool.or_false];exact I⟩
end steps
def mR (a:Act)(C:List Tmp)(j:Act):Prop:=j.defers=a.defers∧∀t∈C,j.tmps[t]? =a.tmps[t]?
def JN (ops:Array Oper)(j:List Tmp):Bool:=ops.all fun o=>match o.dst with|some d=>!j.contains d|none=>true
theorem mR.refl (a:Act)(j:List Tmp):mR a j a:=⟨rfl,fun _ _=>rfl⟩
theorem tN {ops:Array Oper}{a:Act}{j:List Tmp}(h:JN ops j=true)(i:Nat)(o:Oper)(C:Act)(v:Value)(hi:ops[i]? =some o)(I:mR a j C):mR a j (C.put o.dst v):=by
 refine⟨(tA _ _ _).trans I.1,fun t J=>?_⟩;have R:=Array.all_eq_true'.1 h o (Array.mem_of_getElem? hi);cases hd:o.dst with
 |none=>exact I.2 t J
 |some d=>
  rw[hd] at R;have Y:d≠t:=by intro e;subst e;simp at R;exact R J
  show(C.tmps.setIfInBounds d v)[t]? =_;rw[Array.getElem?_setIfInBounds_ne Y];exact I.2 t J
end
end
section
section
variable {P:Program} {ops:Array Oper} {S:World→Prop} {T:List Tmp} {F:Tmp→Value→World→Prop} {L:Nat→Option (Value→Prop)} {D:Nat→Bool} {X:List PanicEntry→World→Prop} {Q:Act→Prop} {o:Oper} {rest:List Oper} {k:Nat} {dead:Bool} {a:Act}
theorem O3 {v:Value}{C:Act}(h:∀w,S w→ij ops T F o a w→(execOp a.eval o).run P w=.ok (.value v) w)(I:oC P ops S T F L D X Q rest (k+1) dead C)(hw:Region.wanted o (yielded ops a.tmps)=true:=by rfl)(hl:L k=none:=by rfl)(j:D k=false:=by rfl)(J:∀d,o.dst=some d→d∉T:=by intro d j;first|(intro R;cases R;done)|(cases j;decide))(Y:a.put o.dst v=C:=by conv=>lhs;simp only[PS]):oC P ops S T F L D X Q (o::rest) k dead a:=xy hw hl j J h (by rw[Y];exact I)
theorem O0 {v:Value}{C:Act}(I:oC P ops S T F L D X Q rest (k+1) dead C)(h:∀w,S w→ij ops T F o a w→(execOp a.eval o).run P w=.ok (.value v) w:=by intro wn I J;go_simp;with_reducible rfl)(hw:Region.wanted o (yielded ops a.tmps)=true:=by rfl)(hl:L k=none:=by rfl)(j:D k=false:=by rfl)(R:∀d,o.dst=some d→d∉T:=by intro d j;first|(intro Y;cases Y;done)|(cases j;decide))(J:a.put o.dst v=C:=by conv=>lhs;simp only[PS]):oC P ops S T F L D X Q (o::rest) k dead a:=xy hw hl j R h (by rw[J];exact I)
theorem O4 {v:Value}{R:Act}{C:World→Prop}(f:∀w,S w→C w)(Y:oC P ops S T F L D X Q rest (k+1) dead R)(h:∀w,S w→C w→ij ops T F o a w→(execOp a.eval o).run P w=.ok (.value v) w:=by intro wn Y I j;(try dsimp only at I);(repeat obtain⟨_,I⟩:=I);go_simp;with_reducible rfl)(hw:Region.wanted o (yielded ops a.tmps)=true:=by rfl)(hl:L k=none:=by rfl)(J:D k=false:=by rfl)(ht:∀d,o.dst=some d→d∉T:=by intro d J;first|(intro hT;cases hT;done)|(cases J;decide))(j:a.put o.dst v=R:=by conv=>lhs;simp only[PS]):oC P ops S T F L D X Q (o::rest) k dead a:=xy hw hl J ht (fun w hs j=>h w hs (f w hs) j) (by rw[j];exact Y)
theorem O2 {C:Act}(I:oC P ops S T F L D X Q rest (k+1) dead C)(hw:Region.wanted o (yielded ops a.tmps)=false:=by rfl)(j:D k=false:=by rfl)(J:∀d,o.dst=some d→d∉T:=by intro d j;first|(intro R;cases R;done)|(cases j;decide))(Y:a.put o.dst undef=C:=by conv=>lhs;simp only[PS]):oC P ops S T F L D X Q (o::rest) k dead a:=Ib hw j J (by rw[Y];exact I)
theorem O6 {V:Value→Prop}(h:∀w,S w→ij ops T F o a w→xG P S T F X false V o w ((execOp a.eval o).run P w))(j:∀w,S w→ij ops T F o a w→∃u w',V u∧om S T F o w w' u)(C:∀v,V v→oC P ops S T F L D X Q rest (k+1) dead (a.put o.dst v))(hw:Region.wanted o (yielded ops a.tmps)=true:=by rfl)(hl:L k=some V:=by rfl)(I:D k=false:=by rfl):oC P ops S T F L D X Q (o::rest) k dead a:=Ey hw hl I h j C
theorem O5 {v:Value}{C:Act}(h:∀w,S w→ij ops T F o a w→∃f args,(execOp a.eval o).run P w=.ok (.enter f args) w∧Calls P f args w fun e w'=>e=.returned v∧S w'∧∀t∈T,∀v,F t v w→F t v w')(I:oC P ops S T F L D X Q rest (k+1) dead C)(hw:Region.wanted o (yielded ops a.tmps)=true:=by rfl)(hl:L k=some (·=v):=by rfl)(j:D k=false:=by rfl)(J:∀d,o.dst=some d→d∉T:=by intro d j;first|(intro R;cases R;done)|(cases j;decide))(Y:a.put o.dst v=C:=by conv=>lhs;simp only[PS]):oC P ops S T F L D X Q (o::rest) k dead a:=tW hw hl j J h (by rw[Y];exact I)
theorem O7 (v:Value){C:Act}(h:∀w,S w→ij ops T F o a w→∃f args,(execOp a.eval o).run P w=.ok (.enter f args) w∧Calls P f args w fun e w'=>∃I,e=.panicked I∧X I w')(J:oC P ops S T F L D X Q rest (k+1) true C)(hw:Region.wanted o (yielded ops a.tmps)=true:=by rfl)(hl:L k=some (·=v):=by rfl)(j:D k=true:=by rfl)(R:∀d,o.dst=some d→d∉T:=by intro d j;first|(intro Y;cases Y;done)|(cases j;decide))(hp:a.put o.dst v=C:=by conv=>lhs;simp only[PS]):oC P ops S T F L D X Q (o::rest) k dead a:=Ic v hw hl j R h (by rw[hp];exact J)
theorem qaf {Q:Act→Prop}(b:Bool){v:Value}(hw:Region.wanted o (yielded ops a.tmps)=true)(hl:L k=some (·=v))(J:D k=!b)(R:∀d,o.dst=some d→d∉T)
 (h:∀w,S w→ij ops T F o a w→∃f args,(execOp a.eval o).run P w=.ok (.enter f args) w∧Calls P f args w fun e w'=>(b=true∧e=.returned v∧S w'∧∀t∈T,∀v,F t v w→F t v w')∨∃Y,e=.panicked Y∧X Y w') (hk:oC P ops S T F L D X Q rest (k+1) (dead||!b) (a.put o.dst v)):oC P ops S T F L D X Q (o::rest) k dead a:=
 ⟨_,.inr (.inl ⟨hw,hl,fun w C hp=>by
  obtain⟨f,args,hr,hc⟩:=h w C hp;rw[hr];refine hc.mono fun e w' h'=>?_;rcases h' with ⟨hb,h1,h2,h3⟩|h';·exact .inl ⟨by rw[J,hb];rfl,v,h1,rfl,h2,h3,fun d j I=>absurd I (R d j)⟩
  exact .inr h',fun w C _=>⟨v,w,rfl,C,fun _ _ _ h=>h,fun d j I=>absurd I (R d j)⟩⟩),fun _ e=>by subst e;rw[J];exact hk⟩
theorem O8 {v:Value}{Y:Act}{C:World→Prop}{f:FuncId}{args:Array Value}(g:∀w,S w→C w)(h:∀w,S w→Calls P f args w fun e w'=>e=.returned v∧S w'∧∀t∈T,∀v,F t v w→F t v w')(hk:oC P ops S T F L D X Q rest (k+1) dead Y)(he:∀w,S w→C w→ij ops T F o a w→(execOp a.eval o).run P w=.ok (.enter f args) w:=by intro wn hk I j;(try dsimp only at I);(repeat obtain⟨_,I⟩:=I);go_simp<;>first|with_reducible rfl|exact⟨rfl,rfl⟩|rfl)(hw:Region.wanted o (yielded ops a.tmps)=true:=by rfl)(hl:L k=some (·=v):=by rfl)(J:D k=false:=by rfl)(ht:∀d,o.dst=some d→d∉T:=by intro d J;first|(intro hT;cases hT;done)|(cases J;decide))(j:a.put o.dst v=Y:=by conv=>lhs;simp only[PS]):oC P ops S T F L D X Q (o::rest) k dead a:=tW hw hl J ht (fun w R j=>⟨f,args,he w R (g w R) j,h w R⟩) (by rw[j];exact hk)
theorem O9 (b:Bool){v:Value}{Y:Act}{C:World→Prop}{f:FuncId}{args:Array Value}(g:∀w,S w→C w)(h:∀w,S w→Calls P f args w fun e w'=>(b=true∧e=.returned v∧S w'∧∀t∈T,∀v,F t v w→F t v w')∨∃ch,e=.panicked ch∧X ch w')(hk:oC P ops S T F L D X Q rest (k+1) (dead||!b) Y)(he:∀w,S w→C w→ij ops T F o a w→(execOp a.eval o).run P w=.ok (.enter f args) w:=by intro wn hk I j;(try dsimp only at I);(repeat obtain⟨_,I⟩:=I);go_simp<;>first|with_reducible rfl|exact⟨rfl,rfl⟩|rfl)(hw:Region.wanted o (yielded ops a.tmps)=true:=by rfl)(hl:L k=some (·=v):=by rfl)(J:D k=!b:=by rfl)(ht:∀d,o.dst=some d→d∉T:=by intro d J;first|(intro hT;cases hT;done)|(cases J;decide))(j:a.put o.dst v=Y:=by conv=>lhs;simp only[PS]):oC P ops S T F L D X Q (o::rest) k dead a:=qaf b hw hl J ht (fun w R j=>⟨f,args,he w R (g w R) j,h w R⟩) (by rw[j];exact hk)
theorem ZS {Q:Act→Prop}(h:dead=false→Q a):oC P ops S T F L D X Q [] k dead a:=h
theorem OB {Q':Exit→Act→World→Prop}{W:World}{j:Tmp}{e:TypeId}{cs:Array Value}{dr R:List Oper}{J:Nat→Act}(hk:∀g wt,dead=false→aa All W wt→W.heap.size≤g→al wt g e cs→wpList P ops Q' R (J g) wt)
 (h:∀w,aa All W w→ij ops [j] (fun _ v wn=>∃g,v=.slice (some ⟨g,0,none⟩) 1 1∧W.heap.size≤g∧al wn g e cs) o a w→(execOp a.eval o).run P w=.ok (.value (.slice (some ⟨w.heap.size,0,none⟩) 1 1)) (w.alloc (.cells cs e)):=by intro wn hk hp;go_simp<;>with_reducible rfl) (hw:Region.wanted o (yielded ops a.tmps)=true:=by rfl) (hl:L k=some (fun v=>∃g,v=.slice (some ⟨g,0,none⟩) 1 1):=by rfl) (hd:D k=false:=by rfl) (Y:o.dst=some j:=by rfl)
 (hp:∀g,a.put (some j) (.slice (some ⟨g,0,none⟩) 1 1)=J g:=by intro g;conv=>lhs;simp only[PS]) (ht:∀g,(J g).tmps[j]? =some (.slice (some ⟨g,0,none⟩) 1 1):=by intro g;rfl) (a6:dr=R:=by conv=>lhs;simp only[dK]):
 oC P ops (aa All W) [j] (fun _ v wn=>∃g,v=.slice (some ⟨g,0,none⟩) 1 1∧W.heap.size≤g∧al wn g e cs) L D X (fun J=>∀w',aa All W w'→(∀t∈[j],∀v,J.tmps[t]? =some v→∃g,v=.slice (some ⟨g,0,none⟩) 1 1∧W.heap.size≤g∧al w' g e cs)→wpList P ops Q' dr J w') [o] k dead a:=by
 have good:∀w,aa All W w→om (aa All W) [j] (fun _ v wn=>∃g,v=.slice (some ⟨g,0,none⟩) 1 1∧W.heap.size≤g∧al wn g e cs) o w (w.alloc (.cells cs e)) (.slice (some ⟨w.heap.size,0,none⟩) 1 1):=fun w C=>⟨C.alloc _,fun t _ v ⟨g,e,h1,h2⟩=>⟨g,e,h1,h2.alloc _⟩,fun d hd hT=>⟨_,rfl,C.size,al.new _ _ _⟩⟩;refine Ey hw hl hd (fun w C a1=>?_) (fun w C a1=>⟨_,_,⟨_,rfl⟩,good w C⟩) ?_
 ·rw[h w C a1]
  exact⟨rfl,⟨_,rfl⟩,good w C⟩
 rintro v ⟨g,rfl⟩;rw[Y,hp g];refine ZS fun a7 wt a8 hF=>?_;obtain⟨g',I,h1,h2⟩:=hF j (by simp) _ (ht g);injection I with I;injection I with I;injection I with I;subst I;rw[a6];exact hk g wt a7 a8 h1 h2
theorem R3 {id:Nat}{Q':Exit→Act→World→Prop}{a:Act}{w:World}{l I:List Oper}(n:Nat)(W:World)(T:List Tmp)(F:Tmp→Value→World→Prop)(L:Nat→Option (Value→Prop))(D:Nat→Bool)(X:List PanicEntry→World→Prop)(R:∀j J w,X J w→j.defers=a.defers→Q' (.panic J) j w)(h:oC P l.toArray (aa All W) T F L D X (fun j=>∀w',aa All W w'→(∀t∈T,∀v,j.tmps[t]? =some v→F t v w')→wpList P l.toArray Q' (l.drop n) j w') I 0 false a)(hm:P.follows .mixedOrders=true:=by kernel_rfl)(hB:yZ .any l.toArray n=true:=by kernel_rfl)(Y:ns .any l.toArray T=true:=by kernel_rfl)(C:pM l.toArray T n=true:=by kernel_rfl)(hS:aa All W w.drew:=by exact(aa.refl _ _).drew)(ht:l.take n=I:=by conv=>lhs;simp only[tK]):(Code.region id l.toArray true).wp P Q' a w:=bq n (aa All W) T F L D X hm hB Y C hS R (by rw[ht];exact h)
theorem R2 {id:Nat}{Q':Exit→Act→World→Prop}{a:Act}{w:World}{l I:List Oper}(n:Nat)(W:World)(L:Nat→Option (Value→Prop))(D:Nat→Bool)(X:List PanicEntry→World→Prop)(R:∀j J w,X J w→j.defers=a.defers→Q' (.panic J) j w)(h:oC P l.toArray (aa All W) [] (fun _ _ _=>True) L D X (fun j=>∀w',aa All W w'→(∀t∈([]:List Tmp),∀v,j.tmps[t]? =some v→True)→wpList P l.toArray Q' (l.drop n) j w') I 0 false a)(hm:P.follows .mixedOrders=true:=by kernel_rfl)(hB:yZ .any l.toArray n=true:=by kernel_rfl)(Y:ns .any l.toArray []=true:=by kernel_rfl)(C:pM l.toArray [] n=true:=by kernel_rfl)(hS:aa All W w.drew:=by exact(aa.refl _ _).drew)(ht:l.take n=I:=by conv=>lhs;simp only[tK]):(Code.region id l.toArray true).wp P Q' a w:=R3 n W [] (fun _ _ _=>True) L D X R h hm hB Y C hS ht
theorem R1 {id:Nat}{Q':Exit→Act→World→Prop}{a:Act}{w:World}{l C:List Oper}(n:Nat)(W:World)(T:List Tmp)(F:Tmp→Value→World→Prop)(L:Nat→Option (Value→Prop))(h:oC P l.toArray (aa All W) T F L (fun _=>false) (fun _ _=>False) (fun I=>∀w',aa All W w'→(∀t∈T,∀v,I.tmps[t]? =some v→F t v w')→wpList P l.toArray Q' (l.drop n) I w') C 0 false a)(hm:P.follows .mixedOrders=true:=by kernel_rfl)(hB:yZ .any l.toArray n=true:=by kernel_rfl)(J:ns .any l.toArray T=true:=by kernel_rfl)(j:pM l.toArray T n=true:=by kernel_rfl)(R:aa All W w.drew:=by exact(aa.refl _ _).drew)(Y:l.take n=C:=by conv=>lhs;simp only[tK]):(Code.region id l.toArray true).wp P Q' a w:=R3 n W T F L (fun _=>false) (fun _ _=>False) (fun _ _ _ h=>False.elim h) h hm hB J j R Y
theorem R0 {id:Nat}{Q':Exit→Act→World→Prop}{a:Act}{w:World}{l C:List Oper}(n:Nat)(W:World)(L:Nat→Option (Value→Prop))(h:oC P l.toArray (aa All W) [] (fun _ _ _=>True) L (fun _=>false) (fun _ _=>False) (fun I=>∀w',aa All W w'→(∀t∈([]:List Tmp),∀v,I.tmps[t]? =some v→True)→wpList P l.toArray Q' (l.drop n) I w') C 0 false a)(hm:P.follows .mixedOrders=true:=by kernel_rfl)(hB:yZ .any l.toArray n=true:=by kernel_rfl)(J:ns .any l.toArray []=true:=by kernel_rfl)(j:pM l.toArray [] n=true:=by kernel_rfl)(R:aa All W w.drew:=by exact(aa.refl _ _).drew)(Y:l.take n=C:=by conv=>lhs;simp only[tK]):(Code.region id l.toArray true).wp P Q' a w:=R1 n W [] (fun _ _ _=>True) L h hm hB J j R Y
end
end
end Go.Proofs.YtgdlhckhpolnnaaGreatDoor
