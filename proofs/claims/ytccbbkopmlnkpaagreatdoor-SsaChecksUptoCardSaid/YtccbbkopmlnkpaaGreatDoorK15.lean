/- Part 16 of the proof (its last part says what is proved). No condition. -/
import Derived.Test.YtccbbkopmlnkpaaGreatDoorK14
namespace Go.Proofs.YtccbbkopmlnkpaaGreatDoor
set_option maxRecDepth 100000
set_option maxHeartbeats 8000000
open Go.RowKit Go.Proofs.Tryz
section
def Vp (ll:List (List Int))(a b:Nat):Bool:=(ll.getD a []).any fun t=>decide (t=(b:Int))
theorem Tr {ll:List (List Int)}{a b:Nat}:Vp ll a b=true↔dH ll a b:=by
 unfold Vp dH;rw[iG];cases h:ll[a]? with
 |none=>simp
 |some row=>simp
def VI (ll:List (List Int))(x:Int):Nat→List Nat→List Nat
 |0,S=>S
 |n+1,S=>VI ll x n (S++(List.range ll.length).filter fun(b:Nat)=>decide ((b:Int)≠x)&&!S.contains b&&S.any fun a=>Vp ll a b)
def Ub (ll:List (List Int))(x:Int)(S:List Nat):Bool:=S.all fun a=>(List.range ll.length).all fun(b:Nat)=>!Vp ll a b||decide ((b:Int)=x)||S.contains b
theorem TU {ll:List (List Int)}{x:Int}{P:Nat→Prop}(C:∀a b,P a→dH ll a b→(b:Int)≠x→P b):∀(n:Nat) (S:List Nat),(∀a∈S,P a)→∀a∈VI ll x n S,P a
 |0,_,h=>h
 |n+1,S,h=>TU C n _ fun b j=>by(
 rcases eD.1 j with j|j;·exact h b j
 have I:=(List.mem_filter.1 j).2;simp only[gE,mW,qal] at I;obtain⟨⟨J,_⟩,a,R,o⟩:=I;exact C a b (h a R) (Tr.1 o) J)
theorem Uj {ll:List (List Int)}{x:Int}:∀(n:Nat) (S:List Nat) {a:Nat},a∈S→a∈VI ll x n S
 |0,_,_,h=>h
 |n+1,_,_,h=>Uj n _ (eD.2 (.inl h))
def UT (ll:List (List Int))(a:Nat):List Nat:=VI ll (-1) ll.length [a]
def Yj (ll:List (List Int))(x:Nat):List Nat:=VI ll x ll.length (if x=0 then [] else [0])
def TF (ll:List (List Int)):Bool:=ll.all (fun row=>row.all fun t=>decide (0≤t∧t<ll.length))&&(List.range ll.length).all fun a=>Ub ll (-1) (UT ll a)&&Ub ll a (Yj ll a)
section
variable {ll:List (List Int)} (hw:TF ll=true)
include hw
theorem Xy {a b:Nat}(h:dH ll a b):b<ll.length:=by obtain⟨row,j,o⟩:=h;unfold TF at hw;simp only[gE,List.all_eq_true,qal] at hw;have:=hw.1 row (mG j) _ o;omega
theorem UE {x:Int}{S:List Nat}(o:Ub ll x S=true){a b:Nat}(C:a∈S)(h:dH ll a b)(I:(b:Int)≠x):b∈S:=by
 unfold Ub at o;simp only[List.all_eq_true,Bool.or_eq_true,Bool.not_eq_true',qal,List.contains_iff_mem] at o;rcases o a C b (fg.2 (Xy hw h)) with (j|j)|j;·rw[Tr.2 h] at j;cases j
 ·exact absurd j I
 exact j
theorem Uk {a k:Nat}(o:a<ll.length):k∈UT ll a↔aQ ll a k:=by
 have C:Ub ll (-1) (UT ll a)=true:=by have h:=hw;unfold TF at h;simp only[gE,List.all_eq_true] at h;exact(h.2 a (fg.2 o)).1
 constructor;·exact TU (P:=aQ ll a) (fun _ _ I j _=>I.step j) _ _ (fun b J=>by rw[cx.1 J];exact .refl) k
 intro h;induction h with
 |refl=>exact Uj _ _ (cx.2 rfl)
 |step _ j R=>exact UE hw C R j (by omega)
theorem XH {x k:Nat}(C:x<ll.length):k∈Yj ll x↔gA (dH ll) x k:=by
 have I:Ub ll x (Yj ll x)=true:=by have h:=hw;unfold TF at h;simp only[gE,List.all_eq_true] at h;exact(h.2 x (fg.2 C)).2
 constructor
 ·refine TU (P:=gA (dH ll) x) (fun _ _ J j R=>J.step j (by omega)) _ _ (fun b o=>?_) k
  split at o;·cases o
  rename_i h;rw[cx.1 o];exact .zero h
 intro h;induction h with
 |zero h=>exact Uj _ _ (by rw[ae h];exact cx.2 rfl)
 |step _ j R Y=>exact UE hw I Y j (by omega)
end
def Tw (p:Nat→Bool)(n:Nat):Int:=match (List.range n).find? p with|some k=>k|none=> -1
theorem UQ {P:Nat→Prop}{p:Nat→Bool}{n:Nat}(h:∀k,k<n→(p k=true↔P k)):cV P n=Tw p n:=by
 rcases jX P n with ⟨o,J⟩|⟨k,o,j,C,hm⟩;·rw[o];unfold Tw;rw[List.find?_eq_none.2 fun k j=>by have:=fg.1 j;exact fun C=>J k this ((h k this).1 C)]
 rw[o];unfold Tw;rw[kE (show(List.range n)[k]? =some k by rw[ln j]),sB]
 ·intro y I;rw[List.take_range] at I;have:=fg.1 I;cases R:p y with
  |false=>rfl
  |true=>exact absurd ((h y (by omega)).1 R) (hm y (by omega))
 exact(h k j).2 C
def UJ (b:aw)(v:Int)(q:Nat→Nat→Bool):Bool:=(List.range b.Ng.length).any fun i=>(List.range (b.Ng.getD i []).length).any fun k=>decide (((b.Ng.getD i []).getD k Mv).dst=v)&&q i k
theorem UG {b:aw}{v:Int}{q:Nat→Nat→Bool}{Q:Nat→Nat→Prop}(h:∀i k,i<b.Ng.length→(q i k=true↔Q i k)):UJ b v q=true↔∃i k,jF b v i k∧Q i k:=by
 unfold UJ;simp only[mW,fg,gE,qal];constructor
 ·rintro⟨i,hi,k,o,j,C⟩;have e:b.Ng.getD i []=b.Ng[i]:=by rw[iG,lG hi];rfl
  rw[e] at o j;have R:b.Ng[i].getD k Mv=b.Ng[i][k]:=by rw[iG,lG o];rfl
  rw[R] at j;exact⟨i,k,⟨_,_,lG hi,lG o,j⟩,(h i k hi).1 C⟩
 rintro⟨i,k,⟨l,x,I,J,j⟩,C⟩;have hi:=(lS.1 I).1;have e:b.Ng.getD i []=l:=by rw[iG,I];rfl
 refine⟨i,hi,k,by rw[e];exact(lS.1 J).1,?_,(h i k hi).2 C⟩;rw[e,iG,J];exact j
def Xc (b:aw)(v:Int)(blk:Nat):Bool:=decide (v<b.params)||UJ b v fun i _=>!(Yj (bM b) i).contains blk
def Wl (b:aw)(v:Int)(blk at':Nat):Bool:=decide (v<b.params)||UJ b v fun i k=>if i=blk then decide (k<at') else !(Yj (bM b) i).contains blk
theorem WY {b:aw}(hw:TF (bM b)=true){i blk:Nat}(hi:i<b.Ng.length):(!(Yj (bM b) i).contains blk)=true↔¬gA (dH (bM b)) i blk:=by rw[←XH hw (by rw[cS];exact hi),←List.contains_iff_mem];simp
theorem Ve {b:aw}(hw:TF (bM b)=true){v:Int}{blk:Nat}:Xc b v blk=true↔jl b v blk:=by unfold Xc jl;rw[Bool.or_eq_true,qal,UG fun i k hi=>WY hw hi]
theorem UV {b:aw}(hw:TF (bM b)=true){v:Int}{blk n:Nat}:Wl b v blk n=true↔iP b v blk n:=by
 unfold Wl iP;rw[Bool.or_eq_true,qal,UG (Q:=fun i k=>if i=blk then k<n else¬gA (dH (bM b)) i blk) fun i k hi=>?_];split;·rw[qal]
 exact WY hw hi
def Wf (b:aw)(x:bz)(blk:Nat):Bool:=decide x.Nh.Nodup&&x.Nh.all (fun a=>decide (0≤a)&&Vp (bM b) a.toNat blk)&&(List.range b.Ng.length).all fun i=>!Vp (bM b) i blk||decide ((i:Int)∈x.Nh)
theorem Wg {b:aw}{x:bz}{blk:Nat}:Wf b x blk=true↔lZ b x blk:=by
 unfold Wf lZ;simp only[gE,List.all_eq_true,qal,Bool.or_eq_true,Bool.not_eq_true',fg];constructor;·(
 rintro⟨⟨o,j⟩,J⟩;refine⟨o,fun a=>⟨fun C=>?_,?_⟩⟩
 ·obtain⟨h4,R⟩:=j a C
  exact⟨a.toNat,by omega,Tr.1 R⟩
 rintro⟨i,rfl,hi⟩;have I:i<b.Ng.length:=by obtain⟨row,Y,_⟩:=hi;have:=(lS.1 Y).1;rw[cS] at this;exact this
 rcases J i I with h|h;·rw[Tr.2 hi] at h;cases h
 exact h)
 rintro⟨o,j⟩;refine⟨⟨o,fun a C=>?_⟩,fun i _=>?_⟩
 ·obtain⟨i,rfl,hi⟩:=(j a).1 C
  exact⟨by omega,Tr.2 hi⟩
 cases hb:Vp (bM b) i blk with
 |false=>exact .inl rfl
 |true=>exact .inr ((j i).2 ⟨i,rfl,Tr.1 hb⟩)
def XR (b:aw)(i k:Nat)(x:bz):Int:=
 if x.kind=3 then(if Wf b x i=true then(if(x.args.zip x.Nh).all (fun t=>Xc b t.1 t.2.toNat)=true then 0 else 19) else 18)
 else if x.args.all (fun v=>Wl b v i k)=true then 0 else 19
theorem WK {α:Type}{p q:Prop}{J:Decidable p}{dq:Decidable q}{x y z t:α}(h:p↔q)(o:x=y)(C:z=t):(if p then x else z)=if q then y else t:=by
 subst o;subst C;by_cases j:q;·rw[ap j,ap (h.2 j)]
 rw[ae j,ae fun I=>j (h.1 I)]
theorem qao {b:aw}(hw:TF (bM b)=true)(i k:Nat)(x:bz):uo b i k x=XR b i k x:=by
 unfold uo XR;by_cases j:x.kind=3
 ·rw[ap j,ap j];refine WK Wg.symm (WK ?_ rfl rfl) rfl;rw[List.all_eq_true];constructor
  ·rintro h ⟨v,f⟩ J
   obtain⟨m,hm⟩:=cY.1 J;obtain⟨o,C⟩:=List.getElem?_zip_eq_some.1 hm;exact(Ve hw).2 (h m v f o C)
  intro h m v f o C;exact(Ve hw).1 (h (v,f) (cY.2 ⟨m,List.getElem?_zip_eq_some.2 ⟨o,C⟩⟩))
 rw[ae j,ae j];refine WK ?_ rfl rfl;rw[List.all_eq_true];exact⟨fun h v I=>(UV hw).2 (h v I),fun h v I=>(UV hw).1 (h v I)⟩
def Vs (b:aw)(k:Nat):Bool:=!(UT (bM b) 0).contains k
def UM (b:aw)(k:Nat):Bool:=(UT (bM b) k).all fun e=>decide ((bM b)[e]?≠some [])
def Xe (b:aw):Int×Int:=
 if 0≤Tw (Vs b) b.Ng.length then(fQ b (Tw (Vs b) b.Ng.length).toNat,16)
 else if 0≤Tw (UM b) b.Ng.length then(fQ b (Tw (UM b) b.Ng.length).toNat,17)
 else if(List.range b.Ng.length).any (fun i=>Vp (bM b) i 0)=true then(fQ b 0,18)
 else ls (XR b) b.Ng
theorem XI {b:aw}(hw:TF (bM b)=true):oh b=Xe b:=by
 have o:=cS b;have C:cV (kO (bM b)) b.Ng.length=Tw (Vs b) b.Ng.length:=UQ fun k j=>by unfold Vs kO;rw[←Uk hw (by omega),←List.contains_iff_mem];simp[o,j]
 have I:cV (iN (bM b)) b.Ng.length=Tw (UM b) b.Ng.length:=UQ fun k j=>by(
 unfold UM iN;rw[List.all_eq_true];simp only[qal];constructor
 ·intro h
  exact⟨by omega,fun⟨e,he,h'⟩=>h e ((Uk hw (by omega)).2 he) h'⟩
 rintro⟨_,h⟩ e he h';exact h ⟨e,(Uk hw (by omega)).1 he,h'⟩)
 have J:(∃i,dH (bM b) i 0)↔(List.range b.Ng.length).any (fun i=>Vp (bM b) i 0)=true:=by(
 rw[mW];constructor;·rintro⟨i,hi⟩;refine⟨i,fg.2 ?_,Tr.2 hi⟩;obtain⟨row,R,_⟩:=hi;have:=(lS.1 R).1;omega
 rintro⟨i,_,hi⟩;exact⟨i,Tr.1 hi⟩)
 unfold oh Xe;rw[C,I];refine WK Iff.rfl rfl (WK Iff.rfl rfl (WK J rfl ?_));have:uo b=XR b:=funext fun i=>funext fun k=>funext fun x=>qao hw i k x;rw[this]
def VX:List aw→Nat→Int×Int×Int
 | [],_=>(0,0,0)
 |b::l,i=>if(Xe b).2≠0 then(i,(Xe b).1,(Xe b).2) else VX l (i+1)
theorem Uc:∀ {l:List aw} {i:Nat},l.all (fun b=>TF (bM b))=true→ov l i=VX l i
 | [],_,_=>rfl
 |b::l,i,h=>by rw[List.all_cons,gE] at h;rw[ov,VX,XI h.1,Uc h.2]
end
section
section
variable {α β:Type}
instance decSome (o:Option α) (P:α→Prop) [∀a,Decidable (P a)]:Decidable (∃s,o=some s∧P s):=
 match o with
 |none=>isFalse (by rintro⟨_,h,_⟩;cases h)
 |some a=>decidable_of_iff (P a) ⟨fun h=>⟨a,rfl,h⟩,by rintro⟨_,h,h'⟩;cases h;exact h'⟩
instance decAt (l:List α) (P:Nat→α→Prop) [∀i a,Decidable (P i a)]:Decidable (∀(i:Nat) x,l[i]? =some x→P i x):=
 decidable_of_iff (∀(i:Nat) (h:i<l.length),P i l[i]) ⟨fun h i x hx=>by obtain⟨hi,rfl⟩:=lS.1 hx;exact h i hi,fun h i hi=>h i _ (lG hi)⟩
instance decShape (o:Option (Int×Bool×Bool×Bool)) (P:Int→Bool→Bool→Bool→Prop) [∀a b c d,Decidable (P a b c d)]:Decidable (∃a b c d,o=some (a,b,c,d)∧P a b c d):=
 match o with
 |none=>isFalse (by rintro⟨_,_,_,_,h,_⟩;cases h)
 |some (a,b,c,d)=>decidable_of_iff (P a b c d) ⟨fun h=>⟨a,b,c,d,rfl,h⟩,by rintro⟨_,_,_,_,h,h'⟩;cases h;exact h'⟩
end
instance (x:cX):Decidable (fj x):=by unfold fj fS;infer_instance
instance (f:cD):Decidable (fT f):=by unfold fT;infer_instance
instance (a:EL):Decidable (xA a):=by unfold xA;infer_instance
instance (q:dN):Decidable (fV q):=by unfold fV;infer_instance
def Yo:ByteArray:=bs [102,110,32,109,97,105,110,40,41,32,123,32,97,58,32,120,32,61,32,99,111,110,115,116,32,50,32,98,114,97,110,99,104,32,120,32,98,32,99,32,98,58,32,121,32,61,32,99,111,110,115,116,32,49,32,106,117,109,112,32,100,32,99,58,32,106,117,109,112,32,100,32,100,58,32,122,32,61,32,112,104,105,32,91,98,58,32,121,44,32,99,58,32,120,93,32,114,101,116,117,114,110,32,122,32,125]
def Yp:ByteArray:=bs [102,110,32,109,97,105,110,40,41,32,123,32,97,58,32,120,32,61,32,99,111,110,115,116,32,50,32,98,114,97,110,99,104,32,120,32,98,32,99,32,98,58,32,121,32,61,32,99,111,110,115,116,32,49,32,106,117,109,112,32,100,32,99,58,32,106,117,109,112,32,100,32,100,58,32,114,101,116,117,114,110,32,121,32,125]
def Yq:ByteArray:=bs [102,110,32,109,97,105,110,40,41,32,123,32,97,58,32,106,117,109,112,32,98,32,98,58,32,106,117,109,112,32,98,32,125]
def Uy:ByteArray:=bs [108,101,118,101,108,32,108,111,119,10,108,101,118,101,108,32,104,105,103,104,10,102,108,111,119,32,108,111,119,32,104,105,103,104,10,105,110,112,117,116,32,107,101,121,32,104,105,103,104,10,111,117,116,112,117,116,32,110,101,116,32,108,111,119,10,100,101,112,116,104,32,56]
def Uw:aH:=⟨[(bs [108,111,119]),(bs [104,105,103,104])],[3#64,2#64],[((bs [107,101,121]),1)],[((bs [110,101,116]),0)],8⟩
def WC (s:ByteArray):dN:=(WD s).getD ⟨[],[]⟩
theorem Zd:fV (WC Yo)∧fV (WC Yp)∧fV (WC Yq):=of_decide_eq_true (by kernel_rfl)
instance decOpt {α:Type} (o:Option α) (P:α→Prop) [∀a,Decidable (P a)]:Decidable (∀g,o=some g→P g):=
 match o with
 |none=>isTrue (fun _ h=>by cases h)
 |some a=>decidable_of_iff (P a) ⟨fun h g hg=>by cases hg;exact h,fun h=>h a rfl⟩
instance decNext (l:List Nat):Decidable (∀(i:Nat),l[i+1]? =some 3→l[i]? =some 3):=
 decidable_of_iff (∀i,i<l.length→l[i+1]? =some 3→l[i]? =some 3) ⟨fun h i h1=>h i (by have:=(lS.1 h1).1;omega) h1,fun h i _=>h i⟩
instance decMem (a:ByteArray) (l:List ByteArray):Decidable (a∈l):=decidable_of_iff (l.any (fun x=>decide (x=a))=true) (by simp)
instance decNodup (l:List ByteArray):Decidable l.Nodup:=by unfold List.Nodup;infer_instance
instance (p:aH) (q:dN) (f:cD) (x:cX):Decidable (mO p q f x):=by unfold mO;infer_instance
instance (l:List Nat):Decidable (mQ l):=by unfold mQ;infer_instance
instance (p:aH) (q:dN) (f:cD):Decidable (pj p q f):=by unfold pj;infer_instance
instance (p:aH) (q:dN):Decidable (BG p q):=by unfold BG;infer_instance
theorem Xp:BG Uw (WC Yo)∧BG Uw (WC Yp)∧BG Uw (WC Yq):=of_decide_eq_true (by kernel_rfl)
instance (up:List (BitVec 64)):Decidable (ue up):=by unfold ue dI;infer_instance
instance (p:aH):Decidable (dD p):=by unfold dD cE lj;infer_instance
theorem Ye:dD Uw:=of_decide_eq_true (by kernel_rfl)
instance (p:aH) (c:aE) (b:aw) (n:Int) (x:bz):Decidable (aT p c b n x):=by
 unfold aT;refine @decShape _ _ ?_;intro a d r t
 infer_instance
instance (p:aH) (c:aE) (b:aw):Decidable (qi p c b):=by unfold qi;infer_instance
instance (p:aH) (c:aE):Decidable (bJ p c):=by unfold bJ;infer_instance
def TO (s:ByteArray):aE:=qV Uw (WC s)
theorem UI:bJ Uw (TO Yo)∧bJ Uw (TO Yp)∧bJ Uw (TO Yq):=of_decide_eq_true (by kernel_rfl)
theorem YC:oK Uw (TO Yo)=(0,0,0):=by rw[nc UI.1,Uc (by kernel_rfl)];kernel_rfl
theorem YD:(oK Uw (TO Yp)).2.2=19:=by rw[nc UI.2.1,Uc (by kernel_rfl)];kernel_rfl
theorem YE:(oK Uw (TO Yq)).2=(15,17):=by rw[nc UI.2.2,Uc (by kernel_rfl)];kernel_rfl
instance (n:Int):Decidable (aV n):=by unfold aV;infer_instance
instance (x:bz):Decidable (iM x):=by have:iM x↔aV x.dst∧aV x.ref∧aV x.Ni∧(∀a∈x.args,aV a)∧∀a∈x.Nh,aV a:=⟨fun h=>⟨h.1,h.2,h.3,h.4,h.5⟩,fun h=>⟨h.1,h.2.1,h.2.2.1,h.2.2.2.1,h.2.2.2.2⟩⟩;exact decidable_of_iff _ this.symm
def XZ (c:aE):Bool:=decide (aV c.main)&&c.Nf.all fun b=>b.Ng.flatten.all fun x=>decide (iM x)
theorem Vt {c:aE}(h:XZ c=true):rK c:=by unfold XZ at h;simp only[gE,qal,List.all_eq_true] at h;exact⟨h.1,h.2⟩
theorem Yt:rK (TO Yo)∧rK (TO Yp)∧rK (TO Yq):=⟨Vt (by kernel_rfl),Vt (by kernel_rfl),Vt (by kernel_rfl)⟩
def YI (c:aE):Bool:=decide (c.Nd.length≤1048576)&&decide (c.Nf.length≤1048576)&&c.Nf.all fun b=>decide (b.Ng.length≤1048576)&&b.Ng.all fun l=>decide (l.length≤1048576)&&l.all fun x=>decide (x.args.length≤1048576)&&decide (x.Nh.length≤1048576)
theorem Xs {c:aE}(h:YI c=true):lY c:=by unfold YI at h;simp only[gE,qal,List.all_eq_true] at h;exact⟨h.1.1,h.1.2,fun b j=>(h.2 b j).1,fun b j l o=>((h.2 b j).2 l o).1,fun b j l o x C=>by have:=((h.2 b j).2 l o).2 x C;exact⟨this.1,this.2⟩⟩
theorem YK:lY (TO Yo)∧lY (TO Yp)∧lY (TO Yq):=⟨Xs (by kernel_rfl),Xs (by kernel_rfl),Xs (by kernel_rfl)⟩
theorem Yf:kj Uw:=by
 constructor;·exact of_decide_eq_true (by kernel_rfl)
 ·exact of_decide_eq_true (by kernel_rfl)
 exact of_decide_eq_true (by kernel_rfl)
end
theorem qy {w:World}{g:Nat}{e:TypeId}{l:List Int}{B:Nat}(h:al w g e (aI l).toArray)(o:B≤g)(hw:∀x∈l,(Lit.int .i64 x).wf=true)(C:l.length≤1000):aK (fun g=>B≤g∧g<w.heap.size) w (.slice (some ⟨g,0,none⟩) l.length l.length) l:=
 Sl.of_blk h ⟨o,h.lt⟩ (cf _) (by unfold maxLen;omega) (by omega) fun i x j=>⟨.int .i64 x,by simp[aI,j],rfl,hw x (mG j)⟩
theorem Je (S:Nat→Prop)(bv:Value)(b:aw)(w:World)(hb:bW S w bv b.Ng)(hG:gY b):
 Calls prog 15 #[.agg #[.int .i64 b.params,.int .i64 b.vars,bv]] w (EN b w):=by
 obtain⟨iI,II⟩:=iH kt;obtain⟨iR,IR⟩:=iH vm;have h1:=bg.la hb;obtain⟨B1,d1,rfl,m5,m6,m7,_⟩:=hb;unfold maxLen at*;obtain⟨W0,d8⟩:=eQ (w.alloc (.cells #[.int .i64 b.params,.int .i64 b.vars,.slice B1 b.Ng.length d1] 35));have e3:=aC1 d8;have bB:=aA0 d8;obtain⟨b0,b1,b2⟩:=bB.c3;have j4:=e3.size;have j5:=hG.blk.2;have HG:=oH hG;have HW:=J4 d8 e3 bB h1;clear d8 e3 bB h1 hG;go_enter func15,ntmps15;go_upto_region 1 with fail;rw[←HW.1];go_wp2_with fail;go_loopg [4,12] b.Ng.length (fun g s4 s5 wr=>∃j:Nat,j≤b.Ng.length∧g=b.Ng.length-j∧s5=.int .i64 j∧aa All W0 wr∧dR 1 38 (eT aK) W0.heap.size wr s4 ((bM b).take j));·exact⟨0,by omega,by omega,rfl,kR,by rw[List.take_zero];exact dR.nil⟩
 obtain⟨j,hj,rfl,rfl,c5,a7⟩:=hrel;have d9:=HW.2.1.trans c5;obtain⟨E,ep,rfl⟩:=a7.form;have b9:((bM b).take j).length=j:=by rw[fN,cS];omega
 rw[b9] at a7⊢;have h2:=HW.2.2.1.kept c5 trivial;clear b0 b1 b2;obtain⟨b0,b1,b2⟩:=h2.c3;clear h2;have j2:=c5.size;by_cases i1:j<b.Ng.length;·(
 obtain⟨l,hl⟩:=eG i1;have e0:=mG hl;obtain⟨rb,ro,rv,rfl,i6,j6,e4⟩:=bn (HW.2.2.2 wr d9) hl;obtain⟨q1,q2,q3⟩:=HG.out.some_ l e0;have c9:=(lC q1).2;have hrefs:=HG.out.ref l e0;have c1:=HG.out.Ni l e0;have h4:(bM b).take (j+1)=(bM b).take j++[eJ (iW l)]:=by rw[cU,Cn hl];rfl
 generalize iW l=x at*;obtain⟨LA,lc,rfl,l1,l2,l3,_⟩:=id e4;unfold maxLen at l2;obtain⟨m,hm⟩:∃m:Nat,l.length=m+1:=⟨l.length-1,by omega⟩;rw[show l.length-1=m by omega] at c9;obtain⟨xb,xo,j7,rfl,i7,h5,b8,xa,xf,rfl,j0,j1,h6⟩:=aZ e4 c9;obtain⟨ua,uc,rfl,_⟩:=j0;obtain⟨va,vc,rfl,_⟩:=j1;have z0:=b8 0 _ rfl;rw[dj] at z0;have z1:=b8 1 _ rfl;have z2:=b8 2 _ rfl;have z3:=b8 3 _ rfl;have z4:=b8 4 _ rfl;have z5:=b8 5 _ rfl;have z6:=b8 6 _ rfl;have z7:=b8 7 _ rfl;have z8:=b8 8 _ rfl;have tl:((l.length:Int)==0)=false:=by rw[bE];omega
 have tm:(l.length:Int)-1=(m:Int):=by omega
 have j8:m<l.length:=by omega
 obtain⟨Y,e1⟩:=eQ (wr.alloc (.cells #[.int .u8 x.kind,.int .u8 x.op,.int .i64 x.dst,.int .i64 x.ref,.int .i64 x.Ni,.slice ua x.args.length uc,.slice va x.Nh.length vc,.int .i64 x.num,.int .i64 x.Nj] 40));have e5:=aC1 e1;have b5:=aA0 e1;have j9:=e5.size;have HX:=oH (show∀wn,aa All Y wn→wn.cell? ⟨wr.heap.size,0,none⟩=some (.int .u8 x.kind)∧wn.cell? ⟨wr.heap.size,3,none⟩=some (.int .i64 x.ref)∧wn.cell? ⟨wr.heap.size,4,none⟩=some (.int .i64 x.Ni) from fun wn hk=>⟨(b5.kept hk trivial).cell 0,(b5.kept hk trivial).cell 3,(b5.kept hk trivial).cell 4⟩);have HA:=J6 c5 a7 e1 e5 h4 h6;obtain⟨_,h7⟩:=a7.own;have HO:=oH h7;clear c5 a7 e1 e5 b5 h4 hl e0 e4 c9 b8 h6 d9 i6 i7 h5 h7;go_upto_region 9 with fail;rw[←HA.2.2.1];clear z0 z1 z2 z3 z4 z5 z6 z7 z8;obtain⟨c0,c3,c4⟩:=HX.out Y kR;by_cases e2:x.kind=13;·(
 have t12:=nK x.kind 12 (by omega);have t11:=nK x.kind 11 (by omega);have t13:=wK x.kind 13 (by omega);have c6:=oH (show eJ x=[] by unfold eJ;rw[ae (by omega),ae (by omega)]);clear hrefs c1 e2;obtain⟨X9,C⟩:∃X,X=Y.alloc (.cells #[.slice none 0 0] 38):=⟨_,rfl⟩;have I:=aC1 C;have a8:=aA0 C;have J:=aD1 C;have c7:=eE J;have c8:=eE J.symm;have R:aa All wr X9:=HA.2.2.2.1.trans ((aa.refl All Y).trans I);have o:=HA.2.1.keep (aS ah) R fun _ _ _=>trivial;have b3:aK (fun g=>Y.heap.size≤g∧g<Y.heap.size) X9 (.slice none 0 0) (([]:List Int)):=ah.keep I.all (Sl.nil);have e6:=R.size;have H9:=J5 C a8 o b3 R;clear C I a8 J o b3 R;go_wp2_with (
  at_builtin;go_loud (
  rw[←H9.1];refine bN (E:=eT aK) _ (aS ah) rfl (.tmp 57) (.tmp 59) 54 rfl iR _ 24 underlying54 IR.1 IR.2.1 IR.2.2.1 IR.2.2.2 rfl (by decide) _ _ rfl H9.2.2.1 Y.heap.size 0 1 rfl [.slice none 0 0] (([]:List Int)) rfl ?_ ?_ (by rw[b9];omega) (by omega) (by omega) (fun g=>Y.heap.size≤g∧g<Y.heap.size) ?_ ⟨_,rfl,H9.2.2.2.1⟩ ?_;·intro j u hu;rw[cN,H9.2.1.cell,List.getElem?_toArray];exact hu
  ·intro u hu
   rw[cx.1 hu];rfl
  ·intro g hg;have e7:Y.heap.size≤g∧g<Y.heap.size:=hg;exact⟨by omega,by omega,fun e=>by have:=(aD HO.out e).2;omega⟩
  intro D2 e8 w9 o b4 b6;have HZ:=J3 o b4 b6;clear o b4 b6))
 go_roundg (b.Ng.length-(j+1));·refine⟨j+1,by omega,rfl,by go_num,(HA.1.trans H9.2.2.2.2).grown HZ.2.1 fun b hb=>.inr (HZ.2.2 b hb),?_⟩;rw[HA.2.2.2.2.1,c6.out];have h3:=HZ.1;rw[b9] at h3;exact h3
 omega)
 by_cases d7:x.kind=12;·(
 by_cases ea:x.Ni=x.ref;·(
 have t12:=yK x.kind 12 (by omega);have t11:=nK x.kind 11 (by omega);have t13:=mK x.kind 13 (by omega);have t5:(x.Ni !=x.ref)=false:=by rw[gj];exact ea
 have c6:=oH (show eJ x=[x.ref] by unfold eJ;rw[ae (fun h=>h.2 ea),ap (.inl d7)]);clear hrefs c1 e2 d7 ea;obtain⟨X1,a6⟩:∃X,X=Y.alloc (.cells #[.int .i64 x.ref] 3):=⟨_,rfl⟩;have a1:=aC1 a6;have c2:al X1 Y.heap.size 3 (aI [x.ref]).toArray:=by rw[a6];exact ac rfl
 have h8:=a1.size;have b7:=J3 a6 a1 c2;clear a6 a1 c2;go_upto_region 15 with fail;rw[←b7.1];obtain⟨X9,C⟩:∃X,X=X1.alloc (.cells #[.slice (some ⟨Y.heap.size,0,none⟩) 1 1] 38):=⟨_,rfl⟩;have I:=aC1 C;have a8:=aA0 C;have J:=aD1 C;have c7:=eE J;have c8:=eE J.symm;have R:aa All wr X9:=HA.2.2.2.1.trans (b7.2.1.trans I);have o:=HA.2.1.keep (aS ah) R fun _ _ _=>trivial;have b3:aK (fun g=>Y.heap.size≤g∧g<X1.heap.size) X9 (.slice (some ⟨Y.heap.size,0,none⟩) 1 1) ([x.ref]):=ah.keep I.all (qy (l:=[x.ref]) b7.2.2 (cf _) (fun y hy=>by rcases fX.1 hy with rfl|hy<;>first|exact iw HA.2.2.2.2.2.ref|(rw[cx.1 hy];exact iw HA.2.2.2.2.2.Ni)|cases hy) (by simp));have e6:=R.size;have H9:=J5 C a8 o b3 R;clear C I a8 J o b3 R;go_wp2_with (
  at_builtin;go_loud (
  rw[←H9.1];refine bN (E:=eT aK) _ (aS ah) rfl (.tmp 57) (.tmp 59) 54 rfl iR _ 24 underlying54 IR.1 IR.2.1 IR.2.2.1 IR.2.2.2 rfl (by decide) _ _ rfl H9.2.2.1 X1.heap.size 0 1 rfl [.slice (some ⟨Y.heap.size,0,none⟩) 1 1] ([x.ref]) rfl ?_ ?_ (by rw[b9];omega) (by omega) (by omega) (fun g=>Y.heap.size≤g∧g<X1.heap.size) ?_ ⟨_,rfl,H9.2.2.2.1⟩ ?_;·intro j u hu;rw[cN,H9.2.1.cell,List.getElem?_toArray];exact hu
  ·intro u hu
   rw[cx.1 hu];rfl
  ·intro g hg;have e7:Y.heap.size≤g∧g<X1.heap.size:=hg;exact⟨by omega,by omega,fun e=>by have:=(aD HO.out e).2;omega⟩
  intro D2 e8 w9 o b4 b6;have HZ:=J3 o b4 b6;clear o b4 b6))
 go_roundg (b.Ng.length-(j+1));·refine⟨j+1,by omega,rfl,by go_num,(HA.1.trans H9.2.2.2.2).grown HZ.2.1 fun b hb=>.inr (HZ.2.2 b hb),?_⟩;rw[HA.2.2.2.2.1,c6.out];have h3:=HZ.1;rw[b9] at h3;exact h3
 omega)
 have t12:=yK x.kind 12 (by omega);have t11:=nK x.kind 11 (by omega);have t13:=mK x.kind 13 (by omega);have t5:(x.Ni !=x.ref)=true:=by rw[bne_iff_ne];exact ea
 have c6:=oH (show eJ x=[x.ref,x.Ni] by unfold eJ;rw[ap ⟨d7,ea⟩]);clear hrefs c1 e2 d7 ea;obtain⟨X1,a6⟩:∃X,X=Y.alloc (.cells #[.int .i64 x.ref,.int .i64 x.Ni] 3):=⟨_,rfl⟩;have a1:=aC1 a6;have c2:al X1 Y.heap.size 3 (aI [x.ref,x.Ni]).toArray:=by rw[a6];exact ac rfl
 have h8:=a1.size;have b7:=J3 a6 a1 c2;clear a6 a1 c2;go_upto_region 15 with fail;rw[←b7.1];obtain⟨X9,C⟩:∃X,X=X1.alloc (.cells #[.slice (some ⟨Y.heap.size,0,none⟩) 2 2] 38):=⟨_,rfl⟩;have I:=aC1 C;have a8:=aA0 C;have J:=aD1 C;have c7:=eE J;have c8:=eE J.symm;have R:aa All wr X9:=HA.2.2.2.1.trans (b7.2.1.trans I);have o:=HA.2.1.keep (aS ah) R fun _ _ _=>trivial;have b3:aK (fun g=>Y.heap.size≤g∧g<X1.heap.size) X9 (.slice (some ⟨Y.heap.size,0,none⟩) 2 2) ([x.ref,x.Ni]):=ah.keep I.all (qy (l:=[x.ref,x.Ni]) b7.2.2 (cf _) (fun y hy=>by rcases fX.1 hy with rfl|hy<;>first|exact iw HA.2.2.2.2.2.ref|(rw[cx.1 hy];exact iw HA.2.2.2.2.2.Ni)|cases hy) (by simp));have e6:=R.size;have H9:=J5 C a8 o b3 R;clear C I a8 J o b3 R;go_wp2_with (
  at_builtin;go_loud (
  rw[←H9.1];refine bN (E:=eT aK) _ (aS ah) rfl (.tmp 57) (.tmp 59) 54 rfl iR _ 24 underlying54 IR.1 IR.2.1 IR.2.2.1 IR.2.2.2 rfl (by decide) _ _ rfl H9.2.2.1 X1.heap.size 0 1 rfl [.slice (some ⟨Y.heap.size,0,none⟩) 2 2] ([x.ref,x.Ni]) rfl ?_ ?_ (by rw[b9];omega) (by omega) (by omega) (fun g=>Y.heap.size≤g∧g<X1.heap.size) ?_ ⟨_,rfl,H9.2.2.2.1⟩ ?_;·intro j u hu;rw[cN,H9.2.1.cell,List.getElem?_toArray];exact hu
  ·intro u hu
   rw[cx.1 hu];rfl
  ·intro g hg;have e7:Y.heap.size≤g∧g<X1.heap.size:=hg;exact⟨by omega,by omega,fun e=>by have:=(aD HO.out e).2;omega⟩
  intro D2 e8 w9 o b4 b6;have HZ:=J3 o b4 b6;clear o b4 b6))
 go_roundg (b.Ng.length-(j+1));·refine⟨j+1,by omega,rfl,by go_num,(HA.1.trans H9.2.2.2.2).grown HZ.2.1 fun b hb=>.inr (HZ.2.2 b hb),?_⟩;rw[HA.2.2.2.2.1,c6.out];have h3:=HZ.1;rw[b9] at h3;exact h3
 omega)
 have t12:=nK x.kind 12 (by omega);have t11:=yK x.kind 11 (by omega);have t13:=mK x.kind 13 (by omega);have c6:=oH (show eJ x=[x.ref] by unfold eJ;rw[ae (by omega),ap (by omega)]);clear hrefs c1 e2 d7;obtain⟨X1,a6⟩:∃X,X=Y.alloc (.cells #[.int .i64 x.ref] 3):=⟨_,rfl⟩;have a1:=aC1 a6;have c2:al X1 Y.heap.size 3 (aI [x.ref]).toArray:=by rw[a6];exact ac rfl
 have h8:=a1.size;have b7:=J3 a6 a1 c2;clear a6 a1 c2;go_upto_region 15 with fail;rw[←b7.1];obtain⟨X9,C⟩:∃X,X=X1.alloc (.cells #[.slice (some ⟨Y.heap.size,0,none⟩) 1 1] 38):=⟨_,rfl⟩;have I:=aC1 C;have a8:=aA0 C;have J:=aD1 C;have c7:=eE J;have c8:=eE J.symm;have R:aa All wr X9:=HA.2.2.2.1.trans (b7.2.1.trans I);have o:=HA.2.1.keep (aS ah) R fun _ _ _=>trivial;have b3:aK (fun g=>Y.heap.size≤g∧g<X1.heap.size) X9 (.slice (some ⟨Y.heap.size,0,none⟩) 1 1) ([x.ref]):=ah.keep I.all (qy (l:=[x.ref]) b7.2.2 (cf _) (fun y hy=>by rcases fX.1 hy with rfl|hy<;>first|exact iw HA.2.2.2.2.2.ref|(rw[cx.1 hy];exact iw HA.2.2.2.2.2.Ni)|cases hy) (by simp));have e6:=R.size;have H9:=J5 C a8 o b3 R;clear C I a8 J o b3 R;go_wp2_with (
  at_builtin;go_loud (
  rw[←H9.1];refine bN (E:=eT aK) _ (aS ah) rfl (.tmp 57) (.tmp 59) 54 rfl iR _ 24 underlying54 IR.1 IR.2.1 IR.2.2.1 IR.2.2.2 rfl (by decide) _ _ rfl H9.2.2.1 X1.heap.size 0 1 rfl [.slice (some ⟨Y.heap.size,0,none⟩) 1 1] ([x.ref]) rfl ?_ ?_ (by rw[b9];omega) (by omega) (by omega) (fun g=>Y.heap.size≤g∧g<X1.heap.size) ?_ ⟨_,rfl,H9.2.2.2.1⟩ ?_;·intro j u hu;rw[cN,H9.2.1.cell,List.getElem?_toArray];exact hu
  ·intro u hu
   rw[cx.1 hu];rfl
  ·intro g hg;have e7:Y.heap.size≤g∧g<X1.heap.size:=hg;exact⟨by omega,by omega,fun e=>by have:=(aD HO.out e).2;omega⟩
  intro D2 e8 w9 o b4 b6;have HZ:=J3 o b4 b6;clear o b4 b6))
 go_roundg (b.Ng.length-(j+1));·refine⟨j+1,by omega,rfl,by go_num,(HA.1.trans H9.2.2.2.2).grown HZ.2.1 fun b hb=>.inr (HZ.2.2 b hb),?_⟩;rw[HA.2.2.2.2.1,c6.out];have h3:=HZ.1;rw[b9] at h3;exact h3
 omega)
 obtain rfl:j=b.Ng.length:=by omega
 rw[oF (by rw[cS];omega)] at a7;have e9:=jT (a7.read (bw:=24) (aS ah) (by rw[cS];omega));have HQ:=J3 c5 d9 (aq.wide (fun g (hg:W0.heap.size≤g∧g<wr.heap.size)=>show w.heap.size≤g∧g<wr.heap.size by omega) e9);have HC:=oH (gt _ _ (bM b) wr e9);clear c5 d9 a7 e9;skip;go_wp2_with fail;refine HC.out.mono ?_;rintro e w2 ⟨rfl,h0⟩;rw[bL (qam HG.out)];have h9:=oH h0;have j3:=h0.size;clear h0;go_wp2_with fail;go_ret2;exact⟨_,rfl,aq.wide (fun g (hg:w.heap.size≤g∧g<wr.heap.size)=>show w.heap.size≤g∧g<w2.heap.size by omega) (aq.keep h9.out.all HQ.2.2),HQ.2.1.trans h9.out⟩
section
open Classical in
theorem pL {P Q:Nat→Prop}{n:Nat}(h:∀k,k<n→(P k↔Q k)):cV P n=cV Q n:=by
 rcases jX P n with ⟨e,g⟩|⟨k,e,o,I,hm⟩;·rw[e,hZ fun k o C=>g k o ((h k o).2 C)]
 rw[e,lO o (fun j J C=>hm j J ((h j (by omega)).2 C)) ((h k o).1 I)]
noncomputable def qx (l:List Bool):Int:=cV (fun k=>l[k]? =some false) l.length
theorem Jk (l:List Bool): -1≤qx l∧qx l<l.length:=by rcases jX (fun k=>l[k]? =some false) l.length with ⟨e,_⟩|⟨k,e,j,_⟩<;>unfold qx<;>rw[e]<;>omega
theorem Ao (S:Nat→Prop)(va:Value)(o:List Bool)(w:World)(ha:gD S w va o):
 Calls prog 48 #[va,.bool false] w fun e w'=>e=.returned (.int .i64 (qx o))∧w'=w:=by
 obtain⟨a,cap,rfl,h1,h2,_,h⟩:=ha;unfold maxLen at h2;have hl:o.length≤9223372036854775807:=by omega
 have H:=oH h;clear h;go_enter func48,ntmps48;go_wp2_with fail;go_loopg [5,8] o.length (fun g s5 s8 wr=>∃k:Nat,k≤o.length∧g=o.length-k∧s8=.int .i64 k∧wr=w∧∀j,j<k→o[j]?≠some false);·exact⟨0,by omega,by omega,rfl,rfl,fun j hj=>by omega⟩
 obtain⟨k,hk,rfl,rfl,hw,J⟩:=hrel;have R:=hw.symm;subst R;have C:=oH J;clear J;by_cases I:k<o.length;·(
 obtain⟨b,off,c,rfl,hs,hc,Y⟩:=H.out k o[k] (lG I);have hg:o[k]? =some o[k]:=lG I;have Hg:=oH hg;clear hg;generalize o[k]=y at*;obtain rfl:c=.bool y:=Y;cases y with
 |false=>have HV:=oH (lO I C.out Hg.out);go_wp2_with fail;go_ret;exact⟨by unfold qx;rw[HV.out];rfl,rfl⟩
 |true=>
  go_wp2_with fail;go_roundg (o.length-(k+1))
  ·refine⟨k+1,by omega,rfl,by go_num,rfl,fun j hj=>?_⟩;by_cases e:j=k;·subst e;rw[Hg.out];simp
   exact C.out j (by omega)
  omega)
 obtain rfl:k=o.length:=by omega
 have HV:=oH (hZ C.out);go_wp2_with fail;go_ret;exact⟨by unfold qx;rw[HV.out];rfl,rfl⟩
theorem uZ (S:Nat→Prop)(C:Value)(o:List Bool)(w:World)(I:gD S w C o):
 Calls prog 26 #[C] w fun e R=>e=.returned (.tuple #[.int .i64 (max (qx o) 0),.bool (decide (0≤qx o))])∧R=w:=by
 have J:=oH (Ao S C o w I);have Y:=Jk o;obtain⟨a,cap,rfl,h1,h2,_,h⟩:=I;unfold maxLen at h2;clear h;generalize qx o=x at*;by_cases hx:0≤x
 ·have t1:decide (x<0)=false:=by simp;omega
  have t2:decide (x≥0)=true:=by simp;omega
  have t3:decide (0≤x)=true:=by simp;omega
  have t4:max x 0=x:=by omega
  rw[t3,t4];clear t3 t4;go_enter func26,ntmps26;go_wp2_with fail;refine J.out.mono ?_;rintro e w2 ⟨rfl,hw⟩;have j:=hw.symm;subst j;go_wp2_with fail;go_ret2;exact⟨rfl,rfl⟩
 obtain rfl:x= -1:=by omega
 go_enter func26,ntmps26;go_wp2_with fail;refine J.out.mono ?_;rintro e w2 ⟨rfl,hw⟩;have j:=hw.symm;subst j;go_wp2_with fail;go_ret2;exact⟨rfl,rfl⟩
theorem An {ll:List (List Int)}:qx (en ll 0)=cV (kO ll) ll.length:=by
 have j:(en ll 0).length=ll.length:=by simp[en]
 unfold qx;rw[j];refine pL fun k o=>?_;have:(en ll 0)[k]? =some (ay ll 0 k):=by simp[en,o]
 rw[this];unfold kO;by_cases C:aQ ll 0 k;·simp[ay,C]
 simp[ay,C,o]
def uz (x:Int)(w:World):Ending→World→Prop:=fun e j=>e=.returned (.tuple #[.int .i64 (max x 0),.bool (decide (0≤x))])∧aa All w j
theorem yC (S:Nat→Prop)(v:Value)(ll:List (List Int))(w:World)(R:Rows S w v ll)(J:aP ll):
 Calls prog 16 #[v] w (uz (cV (kO ll) ll.length) w):=by
 have j:=gt S v ll w R;rw[bL J] at j;have o:=fun Y (hk:aa All w Y)=>ri S v ll 0 Y (aq.keep hk.all R) J J.1;obtain⟨a,cap,rfl,h1,h2,a1,h⟩:=R;have hl:ll.length≤256:=J.2.1;have HR:=J2 j o;clear h h1 h2 a1 j o;go_enter func16,ntmps16;go_wp2_with fail;refine HR.1.mono ?_;rintro e Y ⟨rfl,C⟩;have HK:=oH C;clear C;go_wp2_with fail;refine(HR.2 _ HK.out).mono ?_;rintro e w2 ⟨u,rfl,I,hb⟩;have HF:=oH (uZ _ u _ w2 hb);have HB:=oH (HK.out.trans I);clear I hb;go_wp2_with fail;refine HF.out.mono ?_;rintro e w3 ⟨rfl,hw⟩;have a6:=hw.symm;subst a6;rw[An];go_wp2_with fail;go_ret2;exact⟨rfl,HB.out⟩
end
structure zK (ll:List (List Int))(p q:Nat→Bool)(i:Nat)(s:List Nat):Prop where
 post:jg (dH ll) i s
 nodup:s.Nodup
 mem:∀x,x∈s↔(q x=true∧nX p i x=false)
structure Ih (ll:List (List Int))(p q:Nat→Bool)(i:Nat)(s:List Nat):Prop where
 post:jg (dH ll) i s
 nodup:(s++[i]).Nodup
 mem:∀x,x∈s++[i]↔(q x=true∧p x=false)
theorem Hh (ll:List (List Int))(p:Nat→Bool)(i:Nat):zK ll p (nX p i) i []:=⟨GG _ _,List.nodup_nil,fun x=>by simp⟩
theorem vT {ll:List (List Int)}{p q Y:Nat→Bool}{i j:Nat}{s sj:List Nat}(h:zK ll p q i s)(J:∀k,nX p i k=true→q k=true)(C:∀k,q k=true→Y k=true)(he:dH ll i j)(R:Ih ll q Y j sj):zK ll p Y i (s++(sj++[j])):=by
 refine⟨GF h.post R.post he,?_,fun x=>?_⟩;·refine List.nodup_append.2 ⟨h.nodup,R.nodup,fun a ha b hb e=>?_⟩;subst e;have I:=((h.mem a).1 ha).1;have o:=((R.mem a).1 hb).2;rw[I] at o;cases o
 rw[eD,h.mem,R.mem];constructor
 ·rintro(⟨I,o⟩|⟨I,o⟩);·exact⟨C x I,o⟩
  refine⟨I,?_⟩;cases hu:nX p i x with
  |false=>rfl
  |true=>rw[J x hu] at o;cases o
 rintro⟨I,o⟩;cases hq:q x with
 |false=>exact .inr ⟨I,rfl⟩
 |true=>exact .inl ⟨rfl,o⟩
theorem zr {ll:List (List Int)}{p q:Nat→Bool}{i:Nat}{s:List Nat}(h:zK ll p q i s)(o:p i=false)(C:q i=true):Ih ll p q i s:=by
 refine⟨h.post,?_,fun x=>?_⟩;·refine List.nodup_append.2 ⟨h.nodup,by simp,fun a I b j e=>?_⟩;have j:=cx.1 j;subst j;subst e;have:=((h.mem a).1 I).2;rw[dF] at this;cases this
 rw[eD,h.mem,cx];by_cases e:x=i;·subst e;simp[o,C]
 rw[fd e];simp[e]
def xH (n:Nat)(p:Nat→Bool)(l:List Nat):Prop:=l.Nodup∧∀x∈l,p x=true∧x<n
theorem zA {n:Nat}{p:Nat→Bool}{l:List Nat}(h:xH n p l):l.length≤n:=by have:=List.Nodup.length_le_of_subset h.1 (l₂:=List.range n) fun x j=>fg.2 (h.2 x j).2;simpa using this
theorem zB {ll:List (List Int)}{p q:Nat→Bool}{i:Nat}{l s:List Nat}(Y:aP ll)(hi:i<ll.length)(h:xH ll.length p l)(R:zK ll p q i s)(C:∀k,nX p i k=true→q k=true)(I:∀k,q k=true→p k=true∨aQ ll i k):xH ll.length q (l++s):=by
 refine⟨List.nodup_append.2 ⟨h.1,R.nodup,fun a ha b hb e=>?_⟩,fun x j=>?_⟩
 ·subst e
  have J:=(h.2 a ha).1;have o:=((R.mem a).1 hb).2;rw[je _ _ _ J] at o;cases o
 rcases eD.1 j with j|j;·exact⟨C x (je _ _ _ (h.2 x j).1),(h.2 x j).2⟩
 have J:=(R.mem x).1 j;refine⟨J.1,?_⟩;rcases I x J.1 with o|o;·have:=J.2;rw[je _ _ _ o] at this;cases this
 exact tB Y hi o
def SV (g j base:Nat):Nat→Prop:=fun b=>b≠g∧b≠j∧b<base
def mS (_ _:Nat)(_:World)(_:List Nat):Prop:=True
def mT (j base:Nat)(w:World)(l:List Nat):Prop:=j<base∧base≤w.heap.size∧∃o,al w j 38 #[o]∧w.ownsRow base 3 1 o l.length (aI (l.map Int.ofNat))
theorem mS.keep {j base g:Nat}{w o:World}{l:List Nat}(_:mS j base w l)(_:aa (fun b=>b≠g) w o)(_:g<base)(_:g≠j):mS j base o l:=trivial
theorem mT.keep {j base g:Nat}{w C:World}{l:List Nat}(h:mT j base w l)(k:aa (fun b=>b≠g) w C)(hg:g<base)(J:g≠j):mT j base C l:=by obtain⟨R,Y,vs,h3,I⟩:=h;exact⟨R,fR Y k.size,vs,h3.kept k (fun e=>J e.symm),be I k fun b o=>by have:=(aD I o).1;show b≠g;omega⟩
theorem Ej (j base i:Nat)(w:World)(l:List Nat)(_:mS j base w l)(_:l.length≤1000)(_:i≤1000):
 Calls prog 29 #[.int .i64 i] w fun e o=>e=.returned (.tuple #[])∧mS j base o (l++[i])∧aa (fun b=>b≠j∧b<base) w o:=by
 go_enter func29,ntmps29;go_wp2
 go_end0
 exact⟨rfl,trivial,kR⟩
theorem Ek (bo base i:Nat)(w:World)(l:List Nat)(hT:mT bo base w l)(hl:l.length≤1000)(_:i≤1000):
 Calls prog 108 #[.int .i64 i,.pointer (some ⟨bo,0,none⟩)] w fun e w'=>e=.returned (.tuple #[])∧mT bo base w' (l++[i])∧aa (fun b=>b≠bo∧b<base) w w':=by
 obtain⟨i3,I3⟩:=iH kt;obtain⟨h1,h2,vs,h3,h4⟩:=hT;have a8:=h3.cl 0;have o:(w.alloc (.cells #[.int .i64 i] 3)).ownsRow base 3 1 vs l.length (aI (l.map Int.ofNat)):=be h4 ((aa.refl All w).alloc _) (fun _ _=>trivial);obtain⟨A0,c0,rfl⟩:=aU h4;have HT:=J2 h3 h4;clear h3 h4;go_enter func108,ntmps108;go_wp2_with (
  at_builtin;refine aR _ rfl (.tmp 3) (.tmp 5) 38 rfl base 3 i3 _ 1 8 underlying38 I3.1 I3.2.1 I3.2.2.1 I3.2.2.2 rfl (by decide) _ _ _ rfl o (some ⟨w.heap.size,0,none⟩) 1 1 [.int .i64 i] rfl rfl ?_ ?_ (by unfold maxLen;omega) (by omega) (by simp;omega) ?_;·intro _;exact⟨_,_,rfl,fun j u hu=>by rw[cN,al.cell (al.new _ _ _)];simpa using hu⟩
  ·intro u hu
   rw[cx.1 hu];rfl
  intro v2 w2 C a1 a6;obtain⟨A2,c2,rfl⟩:=aU C;have a7:∀b,(Value.slice A0 l.length c0).ownBlock=some b→base≤b:=fun b hb=>(aD o hb).1;have J:aa (fun b=>b<base) w w2:=((aa.refl _ w).alloc _).grown a1 fun g hg=>.inl fun h=>by have:=a7 g hg;omega
  have R:=HT.1.kept J h1;have Y:=R.cell 0;have b0:=R.free 0;have b1:=J.size;have HS:=J3 C J R;clear C a1 a6 J o a7 R;simp only[gc] at Y)
 go_end0
 obtain⟨g1,g2,g3⟩:=HS.out;have I:aa (fun b=>b≠bo) w2 (w2.setCell ⟨bo,0,none⟩ (.slice A2 (l.length+1) c2)):=(aa.refl _ w2).setCell (p:=⟨bo,0,none⟩) (.inl fun h=>h rfl) _;refine⟨rfl,⟨h1,by have:=I.size;omega,_,g3.set 0 _,?_⟩,(g2.mono fun b hb=>hb.2).trans (I.mono fun b hb=>hb.1)⟩;rw[iQ,List.length_singleton];have:=be g1 I fun b hb=>by have:=(aD g1 hb).1;show b≠bo;omega
 simpa [aI] using this
structure EF (ll:List (List Int))(v:Value)(bb bt bv bl g bo base:Nat)(w:World):Prop where
 been:al w bb 49 #[.slice (some ⟨g,0,none⟩) ll.length ll.length]
 tos:al w bt 54 #[v]
 visit:al w bv 72 #[.func (.func 50) #[] #[.pointer (some ⟨bb,0,none⟩),.pointer (some ⟨bt,0,none⟩),.pointer (some ⟨bv,0,none⟩),.pointer (some ⟨bl,0,none⟩)]]
 tell:al w bl 72 #[.func (.func 29) #[] #[]]
 rows:Rows (SV g bo base) w v ll
 ne:SV g bo base bb∧SV g bo base bt∧SV g bo base bv∧SV g bo base bl∧g<base∧g≠bo
theorem EF.keep {ll:List (List Int)}{v:Value}{o C I J g j base:Nat}{w R:World}(h:EF ll v o C I J g j base w)(k:aa (SV g j base) w R):EF ll v o C I J g j base R:=
 ⟨h.been.kept k h.ne.1,h.tos.kept k h.ne.2.1,h.visit.kept k h.ne.2.2.1,h.tell.kept k h.ne.2.2.2.1,aq.keep k h.rows,h.ne⟩
theorem LM (ll:List (List Int))(hR:aP ll)(v:Value)(bb bt bv bl g bo base:Nat)(m:Nat):∀(i:Nat) (p:Nat→Bool) (l:List Nat) (w:World),unv ll.length p≤m→i<ll.length→p i=false→EF ll v bb bt bv bl g bo base w→al w g 4 (az ll.length p)→mS bo base w l→xH ll.length p l→
 Calls prog 50 #[.int .i64 i,.pointer (some ⟨bb,0,none⟩),.pointer (some ⟨bt,0,none⟩),.pointer (some ⟨bv,0,none⟩),.pointer (some ⟨bl,0,none⟩)] w fun e w'=>
  e=.returned (.tuple #[])∧∃q s,al w' g 4 (az ll.length q)∧aa (SV g bo base) w w'∧Kv ll p q i∧Ih ll p q i s∧mS bo base w' (l++(s++[i])):=by
 induction m with
 |zero=>intro i p l w hm hi hp;have:=jj ll.length hi hp;omega
 |succ m ih=>
  intro i p l w hm hi hp env I b5 b6;have IH:=oH ih;clear ih;have hl:ll.length≤256:=hR.2.1;have c7:=gw hR hi;have a6:=fun j=>kQ (ll:=ll) (j:=j) hi;have e9:ll[i].length≤256:=by have:=du (hR.2.2 _ (eL hi));omega
  have e0:=oH env;obtain⟨a,cap,rfl,_,_,_,h⟩:=env.rows;obtain⟨b1,o1,c1,rfl,h0,e1,ra,j0,rfl,_,_,_,rh⟩:=h i ll[i] (lG hi);have a7:=bj (p:=p) hi;have h1:=env.been.cl 0;have h2:=env.tos.cl 0;have h4:=I.cell i;rw[a7,hp] at h4;have h5:=I.free i;have c9:aa (fun b=>b≠g) w (w.setCell ⟨g,i,none⟩ (.bool true)):=(aa.refl _ w).setCell (.inl fun h=>h rfl) _;have c4:aa (SV g bo base) w (w.setCell ⟨g,i,none⟩ (.bool true)):=c9.mono fun b hb=>hb.1;have b7:al (w.setCell ⟨g,i,none⟩ (.bool true)) g 4 (az ll.length (nX p i)):=by rw[←dg (p:=p) (i:=i) (b:=true) (dF _ _) (fun j _ hj=>fd hj)];exact I.set _ _
  have b4:=mS.keep b5 c9 env.ne.2.2.2.2.1 env.ne.2.2.2.2.2;have a8:=e0.out.keep c4;have h6:=a8.tos.cl 0;have h7:=c4.cell (p:=⟨b1,o1+i,none⟩) h0 e1;have j2:=jj ll.length hi hp;have HF:=J7 c7 a6 rh hp c4 b7 a8;have HL:=J3 hR b4 b6;clear c7 a6 rh hp c4 c9 b7 a8 I e1 h a7 env b5 b4 b6 hR;generalize ll[i]=row at*;go_enter func50,ntmps50;go_wp2_with fail;clear h1 h2 h4 h5 h6 h7
  go_loopg [16] row.length (fun gg x wr=>∃(k:Nat) (q:Nat→Bool) (s:List Nat),k≤row.length∧gg=row.length-k∧x=.int .i64 k∧al wr g 4 (az ll.length q)∧aa (SV g bo base) w wr∧
   (∀k,nX p i k=true→q k=true)∧(∀k,q k=true→p k=true∨aQ ll i k)∧(∀k,q k=true→nX p i k=false→∀j,dH ll k j→q j=true)∧(∀(j:Nat) x,j<k→row[j]? =some x→q x.toNat=true)∧zK ll p q i s∧mS bo base wr (l++s))
  case atStart=>(
 refine⟨0,nX p i,[],by omega,by omega,rfl,HF.2.2.2.2.2.1,HF.2.2.2.2.1,fun _ h=>h,fun k hk=>?_,fun k h1 h2=>(by rw[h1] at h2;cases h2),fun j x hj=>by omega,Hh _ _ _,by rw[List.append_nil];exact HL.2.1⟩;by_cases e:k=i;·subst e;exact .inr .refl
 rw[fd e] at hk;exact .inl hk)
  obtain⟨k,q,s,hk,rfl,rfl,I,Y,o,J,R,C,b8,e2⟩:=hrel;have d7:=zB HL.1 hi HL.2.2 b8 o J;have HQ:=J4 o J R C;have HG:=J3 b8 e2 d7;have b9:=zA d7;clear o J R C b8 e2 d7;have env:=e0.out.keep Y;by_cases c5:k<row.length;·(
 obtain⟨b2,o2,c2,rfl,h8,e3,rfl,j3⟩:=HF.2.2.1 k row[k] (lG c5);have h9:=Y.cell (p:=⟨b2,o2+k,none⟩) h8 e3;obtain⟨x0,x1⟩:=HF.1 row[k] (eL c5);have c8:row[k]∈row:=eL c5;have a7:row[k]? =some row[k]:=lG c5;have HM:=J2 c8 a7;clear c8 a7 e3;generalize row[k]=x at*;obtain⟨j,rfl⟩:∃j:Nat,x=j:=⟨x.toNat,by omega⟩;have e4:j<ll.length:=by omega
 have b0:wr.cell? ⟨g,j,none⟩=some (.bool (q j)):=by rw[I.cell,bj e4]
 have h1:=env.been.cl 0;have h3:=env.visit.cl 0;cases b3:q j with
 |true=>
  rw[b3] at b0;have e5:=oH b3;clear b3 b9;go_wp2_with fail;go_roundg (row.length-(k+1));·(
 obtain⟨o,J,R,C⟩:=HQ.out;refine⟨k+1,q,s,by omega,rfl,by go_num,I,Y,o,J,R,fun a x ha hx=>?_,HG.1,HG.2.1⟩;by_cases e:a=k
 ·subst e
  rw[HM.2] at hx;cases hx;rw[dP];exact e5.out
 exact C a x (by omega) hx)
  omega
 |false=>
  rw[b3] at b0;have j1:=ly ll.length (fun a _ ha=>HQ.1 a ha);have c0:=IH.out j q (l++s) wr (by omega) e4 b3 env I HG.2.1 HG.2.2;have d8:=oH c0;have e5:=oH b3;clear b3 c0 b9;go_wp2_with fail;refine d8.out.mono ?_;rintro e w' ⟨rfl,e6⟩;have i1:=oH e6;clear e6 b0 h9 h1 h3;go_wp2_with fail;go_roundg (row.length-(k+1));·(
 obtain⟨o,J,R,C⟩:=HQ.out;obtain⟨q',sj,d9,c6,⟨a1,a2,a3,a4⟩,e7,c3⟩:=i1.out;have a6:dH ll i j:=(HF.2.1 j).2 HM.1;refine⟨k+1,q',s++(sj++[j]),by omega,rfl,by go_num,d9,Y.trans c6,fun a ha=>a1 a (o a ha),fun a ha=>?_,fun a ha hn b hb=>?_,fun a x ha hx=>?_,vT HG.1 o a1 a6 e7,by rw[←jM];exact c3⟩
 ·rcases a3 a ha with h|h
  ·exact J a h
  exact .inr (aQ.head a6 h)
 ·cases e8:q a with
  |true=>exact a1 b (R a e8 hn b hb)
  |false=>exact a4 a ha e8 b hb
 by_cases e:a=k
 ·subst e
  rw[HM.2] at hx;cases hx;rw[dP];exact a2
 exact a1 _ (C a x (by omega) hx))
  omega)
  have h4:=env.tell.cl 0;have i6:=oH (Ej bo base i wr (l++s) HG.2.1 (by omega) (by omega));go_wp2_with (go_at_call 29;refine i6.out.mono ?_;rintro e w' ⟨rfl,c3,c6⟩)
  go_end0
  obtain⟨o,J,R,C⟩:=HQ.out;refine⟨rfl,q,s,I.kept c6 ⟨env.ne.2.2.2.2.2,env.ne.2.2.2.2.1⟩,Y.trans (c6.mono fun b hb=>hb.2),⟨fun a ha=>o a (je _ _ _ ha),o i (dF _ _),J,fun a ha hn b hb=>?_⟩,zr HG.1 HF.2.2.2.1 (o i (dF _ _)),by rw[←jM];exact c3⟩;by_cases e:a=i;·subst e;have i7:=(HF.2.1 b).1 hb;obtain⟨c,hc,hx⟩:=List.getElem_of_mem i7;have:=C c (b:Int) (by omega) (by rw[lG hc,hx]);rwa [dP] at this
  exact R a ha (by rw[fd e];exact hn) b hb
def tR (_:Nat)(v:Value)(n:Nat)(w:World):World:=
 (((((w.alloc (.cells #[v] 54)).alloc (.cells #[.func (.func 29) #[] #[]] 72)).alloc (.cells (az n fun _=>false) 4)).alloc (.cells #[.slice (some ⟨w.heap.size+1+1,0,none⟩) n n] 49)).alloc
   (.cells #[.func (.func 50) #[] #[.pointer (some ⟨w.heap.size+1+1+1,0,none⟩),.pointer (some ⟨w.heap.size,0,none⟩),.pointer (some ⟨w.heap.size+1+1+1+1,0,none⟩),.pointer (some ⟨w.heap.size+1,0,none⟩)]] 72))
theorem Bw {v:Value}{ll:List (List Int)}{w:World}{j:Nat}(h:Rows (fun b=>b<w.heap.size∧b≠j) w v ll)(C:j<w.heap.size∨j=w.heap.size+5):
 EF ll v (w.heap.size+1+1+1) w.heap.size (w.heap.size+1+1+1+1) (w.heap.size+1) (w.heap.size+1+1) j (w.heap.size+5) (tR j v ll.length w)∧al (tR j v ll.length w) (w.heap.size+1+1) 4 (az ll.length fun _=>false)∧aa All w (tR j v ll.length w):=by
 have o:aa All w (tR j v ll.length w):=((((kR.alloc _).alloc _).alloc _).alloc _).alloc _;refine⟨⟨?_,?_,?_,?_,?_,by unfold SV;omega⟩,?_,o⟩;·exact(ac (by simp)).alloc _
 ·exact((((al.new _ _ _).alloc _).alloc _).alloc _).alloc _
 ·exact ac (by simp)
 ·exact(((ac (by simp)).alloc _).alloc _).alloc _
 ·exact aq.wide (fun b I=>by unfold SV;omega) (aq.keep o.all h)
 exact((ac (by simp)).alloc _).alloc _
theorem Es (bo:Nat)(v:Value)(ll:List (List Int))(f:Nat)(w:World)(hv:Rows (fun b=>b<w.heap.size∧b≠bo) w v ll)(hR:aP ll)(hf:f<ll.length)(b0:bo<w.heap.size∨bo=w.heap.size+5)(hT:mS bo (w.heap.size+5) (tR bo v ll.length w) []):
 Calls prog 28 #[v,.int .i64 f,.func (.func 29) #[] #[]] w fun e w'=>∃u s,e=.returned u∧aa (fun b=>b≠bo) w w'∧gD (fun b=>w.heap.size≤b) w' u (en ll f)∧mS bo (w.heap.size+5) w' (s++[f])∧jg (dH ll) f s∧(s++[f]).Nodup∧∀x,x∈s++[f]↔aQ ll f x:=by
 have I:=Bw hv b0;obtain⟨a,cap,rfl,h1,h2,b1,h⟩:=hv;have hl:ll.length≤256:=hR.2.1;have R:=LM ll hR _ _ _ _ _ _ _ _ _ f (fun _=>false) [] _ (cf _) hf rfl I.1 I.2.1 hT ⟨List.nodup_nil,fun x hx=>by cases hx⟩;have HR:=J3 hR I R;clear h h1 h2 b1 hR I R hT;have b2:=fun w=>iy ll.length (by omega) w;go_enter func28,ntmps28;go_wp2_with fail;refine HR.2.2.mono ?_;rintro e w' ⟨rfl,q,s,J,o,Y,C,a7⟩;have HA:=J5 J o Y C a7;have a6:=HR.2.1.1.keep o;have hc:=a6.been.cl 0;clear J o Y a6 C a7;go_wp2_with fail;go_ret;obtain⟨J,o,⟨a1,a2,a3,a4⟩,C,a7⟩:=HA.out;have hk:aa (fun b=>b<w.heap.size∧b≠bo) w w':=HR.2.1.2.2.all.trans (o.mono fun b hb=>by unfold SV;omega);have hq:∀k,q k=true↔aQ ll f k:=fun k=>⟨fun h=>by rcases a3 k h with h|h;cases h;exact h,fun hr=>mq a2 (fun i hi j hj=>a4 i hi rfl j hj) k hr⟩;refine⟨_,s,rfl,⟨hk.os,hk.output,hk.size,fun k a8 hs=>hk.block k a8 ⟨a8,hs⟩⟩,iT J (by omega) hl fun k a8=>nT (hq k),by simpa using a7,C.post,C.nodup,fun x=>by rw[C.mem,hq];simp⟩
structure EG (ll:List (List Int))(v:Value)(bb bt bv bl g bo base:Nat)(w:World):Prop where
 been:al w bb 49 #[.slice (some ⟨g,0,none⟩) ll.length ll.length]
 tos:al w bt 54 #[v]
 visit:al w bv 72 #[.func (.func 50) #[] #[.pointer (some ⟨bb,0,none⟩),.pointer (some ⟨bt,0,none⟩),.pointer (some ⟨bv,0,none⟩),.pointer (some ⟨bl,0,none⟩)]]
 tell:al w bl 72 #[.func (.func 108) #[] #[.pointer (some ⟨bo,0,none⟩)]]
 rows:Rows (SV g bo base) w v ll
 ne:SV g bo base bb∧SV g bo base bt∧SV g bo base bv∧SV g bo base bl∧g<base∧g≠bo
theorem EG.keep {ll:List (List Int)}{v:Value}{o C I J g j base:Nat}{w R:World}(h:EG ll v o C I J g j base w)(k:aa (SV g j base) w R):EG ll v o C I J g j base R:=
 ⟨h.been.kept k h.ne.1,h.tos.kept k h.ne.2.1,h.visit.kept k h.ne.2.2.1,h.tell.kept k h.ne.2.2.2.1,aq.keep k h.rows,h.ne⟩
theorem LN (ll:List (List Int))(hR:aP ll)(v:Value)(bb bt bv bl g bo base:Nat)(m:Nat):∀(i:Nat) (p:Nat→Bool) (l:List Nat) (w:World),unv ll.length p≤m→i<ll.length→p i=false→EG ll v bb bt bv bl g bo base w→al w g 4 (az ll.length p)→mT bo base w l→xH ll.length p l→
 Calls prog 50 #[.int .i64 i,.pointer (some ⟨bb,0,none⟩),.pointer (some ⟨bt,0,none⟩),.pointer (some ⟨bv,0,none⟩),.pointer (some ⟨bl,0,none⟩)] w fun e w'=>
  e=.returned (.tuple #[])∧∃q s,al w' g 4 (az ll.length q)∧aa (SV g bo base) w w'∧Kv ll p q i∧Ih ll p q i s∧mT bo base w' (l++(s++[i])):=by
 induction m with
 |zero=>intro i p l w hm hi hp;have:=jj ll.length hi hp;omega
 |succ m ih=>
  intro i p l w hm hi hp env I b5 b6;have IH:=oH ih;clear ih;have hl:ll.length≤256:=hR.2.1;have c7:=gw hR hi;have a6:=fun j=>kQ (ll:=ll) (j:=j) hi;have e9:ll[i].length≤256:=by have:=du (hR.2.2 _ (eL hi));omega
  have e0:=oH env;obtain⟨a,cap,rfl,_,_,_,h⟩:=env.rows;obtain⟨b1,o1,c1,rfl,h0,e1,ra,j0,rfl,_,_,_,rh⟩:=h i ll[i] (lG hi);have a7:=bj (p:=p) hi;have h1:=env.been.cl 0;have h2:=env.tos.cl 0;have h4:=I.cell i;rw[a7,hp] at h4;have h5:=I.free i;have c9:aa (fun b=>b≠g) w (w.setCell ⟨g,i,none⟩ (.bool true)):=(aa.refl _ w).setCell (.inl fun h=>h rfl) _;have c4:aa (SV g bo base) w (w.setCell ⟨g,i,none⟩ (.bool true)):=c9.mono fun b hb=>hb.1;have b7:al (w.setCell ⟨g,i,none⟩ (.bool true)) g 4 (az ll.length (nX p i)):=by rw[←dg (p:=p) (i:=i) (b:=true) (dF _ _) (fun j _ hj=>fd hj)];exact I.set _ _
  have b4:=mT.keep b5 c9 env.ne.2.2.2.2.1 env.ne.2.2.2.2.2;have a8:=e0.out.keep c4;have h6:=a8.tos.cl 0;have h7:=c4.cell (p:=⟨b1,o1+i,none⟩) h0 e1;have j2:=jj ll.length hi hp;have HF:=J7 c7 a6 rh hp c4 b7 a8;have HL:=J3 hR b4 b6;clear c7 a6 rh hp c4 c9 b7 a8 I e1 h a7 env b5 b4 b6 hR;generalize ll[i]=row at*;go_enter func50,ntmps50;go_wp2_with fail;clear h1 h2 h4 h5 h6 h7
  go_loopg [16] row.length (fun gg x wr=>∃(k:Nat) (q:Nat→Bool) (s:List Nat),k≤row.length∧gg=row.length-k∧x=.int .i64 k∧al wr g 4 (az ll.length q)∧aa (SV g bo base) w wr∧
   (∀k,nX p i k=true→q k=true)∧(∀k,q k=true→p k=true∨aQ ll i k)∧(∀k,q k=true→nX p i k=false→∀j,dH ll k j→q j=true)∧(∀(j:Nat) x,j<k→row[j]? =some x→q x.toNat=true)∧zK ll p q i s∧mT bo base wr (l++s))
  case atStart=>(
 refine⟨0,nX p i,[],by omega,by omega,rfl,HF.2.2.2.2.2.1,HF.2.2.2.2.1,fun _ h=>h,fun k hk=>?_,fun k h1 h2=>(by rw[h1] at h2;cases h2),fun j x hj=>by omega,Hh _ _ _,by rw[List.append_nil];exact HL.2.1⟩;by_cases e:k=i;·subst e;exact .inr .refl
 rw[fd e] at hk;exact .inl hk)
  obtain⟨k,q,s,hk,rfl,rfl,I,Y,o,J,R,C,b8,e2⟩:=hrel;have d7:=zB HL.1 hi HL.2.2 b8 o J;have HQ:=J4 o J R C;have HG:=J3 b8 e2 d7;have b9:=zA d7;clear o J R C b8 e2 d7;have env:=e0.out.keep Y;by_cases c5:k<row.length;·(
 obtain⟨b2,o2,c2,rfl,h8,e3,rfl,j3⟩:=HF.2.2.1 k row[k] (lG c5);have h9:=Y.cell (p:=⟨b2,o2+k,none⟩) h8 e3;obtain⟨x0,x1⟩:=HF.1 row[k] (eL c5);have c8:row[k]∈row:=eL c5;have a7:row[k]? =some row[k]:=lG c5;have HM:=J2 c8 a7;clear c8 a7 e3;generalize row[k]=x at*;obtain⟨j,rfl⟩:∃j:Nat,x=j:=⟨x.toNat,by omega⟩;have e4:j<ll.length:=by omega
 have b0:wr.cell? ⟨g,j,none⟩=some (.bool (q j)):=by rw[I.cell,bj e4]
 have h1:=env.been.cl 0;have h3:=env.visit.cl 0;cases b3:q j with
 |true=>
  rw[b3] at b0;have e5:=oH b3;clear b3 b9;go_wp2_with fail;go_roundg (row.length-(k+1));·(
 obtain⟨o,J,R,C⟩:=HQ.out;refine⟨k+1,q,s,by omega,rfl,by go_num,I,Y,o,J,R,fun a x ha hx=>?_,HG.1,HG.2.1⟩;by_cases e:a=k
 ·subst e
  rw[HM.2] at hx;cases hx;rw[dP];exact e5.out
 exact C a x (by omega) hx)
  omega
 |false=>
  rw[b3] at b0;have j1:=ly ll.length (fun a _ ha=>HQ.1 a ha);have c0:=IH.out j q (l++s) wr (by omega) e4 b3 env I HG.2.1 HG.2.2;have d8:=oH c0;have e5:=oH b3;clear b3 c0 b9;go_wp2_with fail;refine d8.out.mono ?_;rintro e w' ⟨rfl,e6⟩;have i1:=oH e6;clear e6 b0 h9 h1 h3;go_wp2_with fail;go_roundg (row.length-(k+1));·(
 obtain⟨o,J,R,C⟩:=HQ.out;obtain⟨q',sj,d9,c6,⟨a1,a2,a3,a4⟩,e7,c3⟩:=i1.out;have a6:dH ll i j:=(HF.2.1 j).2 HM.1;refine⟨k+1,q',s++(sj++[j]),by omega,rfl,by go_num,d9,Y.trans c6,fun a ha=>a1 a (o a ha),fun a ha=>?_,fun a ha hn b hb=>?_,fun a x ha hx=>?_,vT HG.1 o a1 a6 e7,by rw[←jM];exact c3⟩
 ·rcases a3 a ha with h|h
  ·exact J a h
  exact .inr (aQ.head a6 h)
 ·cases e8:q a with
  |true=>exact a1 b (R a e8 hn b hb)
  |false=>exact a4 a ha e8 b hb
 by_cases e:a=k
 ·subst e
  rw[HM.2] at hx;cases hx;rw[dP];exact a2
 exact a1 _ (C a x (by omega) hx))
  omega)
  have h4:=env.tell.cl 0;have i6:=oH (Ek bo base i wr (l++s) HG.2.1 (by omega) (by omega));go_wp2_with (go_at_call 108;refine i6.out.mono ?_;rintro e w' ⟨rfl,c3,c6⟩)
  go_end0
  obtain⟨o,J,R,C⟩:=HQ.out;refine⟨rfl,q,s,I.kept c6 ⟨env.ne.2.2.2.2.2,env.ne.2.2.2.2.1⟩,Y.trans (c6.mono fun b hb=>hb.2),⟨fun a ha=>o a (je _ _ _ ha),o i (dF _ _),J,fun a ha hn b hb=>?_⟩,zr HG.1 HF.2.2.2.1 (o i (dF _ _)),by rw[←jM];exact c3⟩;by_cases e:a=i;·subst e;have i7:=(HF.2.1 b).1 hb;obtain⟨c,hc,hx⟩:=List.getElem_of_mem i7;have:=C c (b:Int) (by omega) (by rw[lG hc,hx]);rwa [dP] at this
  exact R a ha (by rw[fd e];exact hn) b hb
def qL (j:Nat)(v:Value)(n:Nat)(w:World):World:=
 (((((w.alloc (.cells #[v] 54)).alloc (.cells #[.func (.func 108) #[] #[.pointer (some ⟨j,0,none⟩)]] 72)).alloc (.cells (az n fun _=>false) 4)).alloc (.cells #[.slice (some ⟨w.heap.size+1+1,0,none⟩) n n] 49)).alloc
   (.cells #[.func (.func 50) #[] #[.pointer (some ⟨w.heap.size+1+1+1,0,none⟩),.pointer (some ⟨w.heap.size,0,none⟩),.pointer (some ⟨w.heap.size+1+1+1+1,0,none⟩),.pointer (some ⟨w.heap.size+1,0,none⟩)]] 72))
theorem Bx {v:Value}{ll:List (List Int)}{w:World}{j:Nat}(h:Rows (fun b=>b<w.heap.size∧b≠j) w v ll)(C:j<w.heap.size∨j=w.heap.size+5):
 EG ll v (w.heap.size+1+1+1) w.heap.size (w.heap.size+1+1+1+1) (w.heap.size+1) (w.heap.size+1+1) j (w.heap.size+5) (qL j v ll.length w)∧al (qL j v ll.length w) (w.heap.size+1+1) 4 (az ll.length fun _=>false)∧aa All w (qL j v ll.length w):=by
 have o:aa All w (qL j v ll.length w):=((((kR.alloc _).alloc _).alloc _).alloc _).alloc _;refine⟨⟨?_,?_,?_,?_,?_,by unfold SV;omega⟩,?_,o⟩;·exact(ac (by simp)).alloc _
 ·exact((((al.new _ _ _).alloc _).alloc _).alloc _).alloc _
 ·exact ac (by simp)
 ·exact(((ac (by simp)).alloc _).alloc _).alloc _
 ·exact aq.wide (fun b I=>by unfold SV;omega) (aq.keep o.all h)
 exact((ac (by simp)).alloc _).alloc _
theorem Et (bo:Nat)(v:Value)(ll:List (List Int))(f:Nat)(w:World)(hv:Rows (fun b=>b<w.heap.size∧b≠bo) w v ll)(hR:aP ll)(hf:f<ll.length)(b0:bo<w.heap.size∨bo=w.heap.size+5)(hT:mT bo (w.heap.size+5) (qL bo v ll.length w) []):
 Calls prog 28 #[v,.int .i64 f,.func (.func 108) #[] #[.pointer (some ⟨bo,0,none⟩)]] w fun e w'=>∃u s,e=.returned u∧aa (fun b=>b≠bo) w w'∧gD (fun b=>w.heap.size≤b) w' u (en ll f)∧mT bo (w.heap.size+5) w' (s++[f])∧jg (dH ll) f s∧(s++[f]).Nodup∧∀x,x∈s++[f]↔aQ ll f x:=by
 have I:=Bx hv b0;obtain⟨a,cap,rfl,h1,h2,b1,h⟩:=hv;have hl:ll.length≤256:=hR.2.1;have R:=LN ll hR _ _ _ _ _ _ _ _ _ f (fun _=>false) [] _ (cf _) hf rfl I.1 I.2.1 hT ⟨List.nodup_nil,fun x hx=>by cases hx⟩;have HR:=J3 hR I R;clear h h1 h2 b1 hR I R hT;have b2:=fun w=>iy ll.length (by omega) w;go_enter func28,ntmps28;go_wp2_with fail;refine HR.2.2.mono ?_;rintro e w' ⟨rfl,q,s,J,o,Y,C,a7⟩;have HA:=J5 J o Y C a7;have a6:=HR.2.1.1.keep o;have hc:=a6.been.cl 0;clear J o Y a6 C a7;go_wp2_with fail;go_ret;obtain⟨J,o,⟨a1,a2,a3,a4⟩,C,a7⟩:=HA.out;have hk:aa (fun b=>b<w.heap.size∧b≠bo) w w':=HR.2.1.2.2.all.trans (o.mono fun b hb=>by unfold SV;omega);have hq:∀k,q k=true↔aQ ll f k:=fun k=>⟨fun h=>by rcases a3 k h with h|h;cases h;exact h,fun hr=>mq a2 (fun i hi j hj=>a4 i hi rfl j hj) k hr⟩;refine⟨_,s,rfl,⟨hk.os,hk.output,hk.size,fun k a8 hs=>hk.block k a8 ⟨a8,hs⟩⟩,iT J (by omega) hl fun k a8=>nT (hq k),by simpa using a7,C.post,C.nodup,fun x=>by rw[C.mem,hq];simp⟩
section
section
variable {ll:List (List Int)}
noncomputable def gF (ll:List (List Int)):List (List Int):=(List.range ll.length).map (di ll ll.length)
theorem fK:(gF ll).length=ll.length:=by simp[gF]
theorem mX {k:Nat}(h:k<ll.length):(gF ll)[k]? =some (di ll ll.length k):=by simp[gF,h]
theorem EU (j:aP ll){a b:Nat}(h:dH ll a b):b<ll.length:=by obtain⟨row,o,C⟩:=h;have:=(j.2.2 row (mG o)).1 _ C;omega
theorem uG (o:aP ll){a b:Nat}:dH (gF ll) a b↔dH ll b a:=by
 constructor
 ·rintro⟨row,j,C⟩;have I:a<ll.length:=by have:=(lS.1 j).1;rwa [fK] at this
  rw[mX I] at j;cases j;obtain⟨c,e,_,J⟩:=jc.1 C;rw[Int.ofNat.inj e];exact J
 exact fun h=>⟨_,mX (EU o h),jc.2 ⟨b,rfl,lq h,h⟩⟩
theorem xM (o:aP ll){a b:Nat}:aQ (gF ll) a b↔aQ ll b a:=by
 constructor
 ·intro h
  induction h with
  |refl=>exact .refl
  |step _ e j=>exact .head ((uG o).1 e) j
 intro h;induction h with
 |refl=>exact .refl
 |step _ e j=>exact .head ((uG o).2 e) j
theorem xN (j:aP ll):aP (gF ll):=by refine⟨by rw[fK];exact j.1,by rw[fK];exact j.2.1,fun row o=>?_⟩;obtain⟨k,_,rfl⟩:=dr.1 o;refine⟨fun x C=>?_,(tx _ _).imp fun h=>by omega⟩;obtain⟨a,rfl,I,_⟩:=jc.1 C;rw[fK];omega
open Classical in
noncomputable def lr (ll:List (List Int))(i k:Nat):Bool:=decide (∃e,e<i∧ll[e]? =some []∧aQ ll k e)
theorem KV:lr ll 0=fun _=>false:=by funext k;simp[lr]
open Classical in
theorem IG {i:Nat}{row:List Int}(h:ll[i]? =some row)(o:1≤row.length):lr ll (i+1)=lr ll i:=by
 funext k;unfold lr;rw[Bool.eq_iff_iff,qal,qal];constructor
 ·rintro⟨e,he,j,C⟩
  by_cases hi:e=i;·subst hi;rw[h] at j;cases j;simp at o
  exact⟨e,by omega,j,C⟩
 rintro⟨e,he,h⟩;exact⟨e,by omega,h⟩
open Classical in
theorem Fz {i:Nat}(C:aP ll)(h:ll[i]? =some [])(k:Nat):lr ll (i+1) k=(lr ll i k||ay (gF ll) i k):=by
 unfold lr;rw[Bool.eq_iff_iff,qal,Bool.or_eq_true,qal,aY,xM C];constructor
 ·rintro⟨e,he,j,o⟩
  by_cases hi:e=i;·subst hi;exact .inr o
  exact .inl ⟨e,by omega,j,o⟩
 rintro(⟨e,he,j⟩|j);·exact⟨e,by omega,j⟩
 exact⟨i,by omega,h,j⟩
noncomputable def pz (ll:List (List Int))(i m k:Nat):Bool:=if k<m then lr ll i k||ay (gF ll) i k else lr ll i k
theorem KW (i:Nat):pz ll i 0=lr ll i:=by funext k;simp[pz]
theorem IJ (i m:Nat):pz ll i m m=lr ll i m:=by simp[pz]
theorem CP (i m:Nat):pz ll i (m+1) m=(lr ll i m||ay (gF ll) i m):=by simp[pz]
theorem IK {i m k:Nat}(h:k≠m):pz ll i (m+1) k=pz ll i m k:=by
 unfold pz;by_cases j:k<m;·rw[ap j,ap (by omega)]
 rw[ae j,ae (by omega)]
theorem FA {i:Nat}(j:aP ll)(h:ll[i]? =some []){k:Nat}(o:k<ll.length):pz ll i ll.length k=lr ll (i+1) k:=by rw[Fz j h];simp[pz,o]
open Classical in
theorem De:qx ((List.range ll.length).map (lr ll ll.length))=cV (iN ll) ll.length:=by
 unfold qx;rw[ce,List.length_range];refine pL fun k C=>?_;have:((List.range ll.length).map (lr ll ll.length))[k]? =some (lr ll ll.length k):=by simp[C]
 rw[this,Option.some.injEq];unfold lr iN;rw[decide_eq_false_iff_not];constructor
 ·rintro h
  refine⟨C,fun⟨e,o,j⟩=>h ⟨e,(lS.1 j).1,j,o⟩⟩
 rintro⟨_,h⟩ ⟨e,_,o,j⟩;exact h ⟨e,j,o⟩
structure mz (ll:List (List Int))(t:Nat→Int)(pl:Nat→Nat):Prop where
 ord:zJ (dH ll) ll.length pl
 good:fU ll.length pl t
 all:∀j,j<ll.length→my t j
 dom:∀j,j<ll.length→∀x,ig t j x↔¬gA (dH ll) x j
def lV (n:Nat)(t:Nat→Int):List Int:=(List.range n).map t
theorem nW (n:Nat)(t:Nat→Int):(lV n t).length=n:=by simp[lV]
theorem tQ {n:Nat}{t:Nat→Int}{k:Nat}(h:k<n):(lV n t)[k]? =some (t k):=by simp[lV,h]
theorem mz.up {t:Nat→Int}{pl:Nat→Nat}(T:mz ll t pl){j:Nat}(o:j<ll.length)(C:j≠0):∃p:Nat,t j=p∧p<ll.length∧pl p<pl j:=by
 rcases T.all j o with h|h;·exact absurd h C
 obtain⟨p,I,J,R,_⟩:=T.good.low j o h;exact⟨p,I,J,R⟩
def oJ (n:Nat)(t:Nat→Int)(j:Nat):List Nat:=kp t n j
theorem zP {t:Nat→Int}{pl:Nat→Nat}(T:mz ll t pl){j x:Nat}(o:j<ll.length):x∈oJ ll.length t j↔¬gA (dH ll) x j:=by rw[oJ,uM T.good x _ j o (Nat.le_of_lt (T.ord.lt j o)),T.dom j o]
end
end
theorem xk (g n c:Nat)(t:TypeId)(cs:Array Value)(w:World)(hb:al w g t cs)(hn:n≤cs.size)(h1:1≤n)(h2:n≤256)(_:n≤c)(a1:∀m,m<n→∃x,cs[m]? =some (.int .i64 x)):
 Calls prog 109 #[.slice (some ⟨g,0,none⟩) n c] w fun e w'=>e=.returned (.tuple #[])∧aa (fun b=>b≠g) w w'∧∃I,al w' g t I∧∀m,m<n→I[m]? =cs[n-1-m]?:=by
 have HB:=oH hb;have HS:=oH a1;clear hb a1;have hl:n≤9223372036854775807:=by omega
 go_enter func109,ntmps109;go_wp2;go_loopg [2,3] n (fun gg i j wr=>∃(k:Nat) (I:Array Value),k≤n∧gg=n-k∧i=.int .i64 k∧j=.int .i64 ((n:Int)-1-k)∧aa (fun b=>b≠g) w wr∧al wr g t I∧lm n k cs I);·exact⟨0,cs,by omega,by omega,rfl,by go_num,kR,HB.out,rfl,fun m hm=>by rw[ae (by omega)]⟩
 obtain⟨k,I,hk,rfl,rfl,rfl,C,o,J⟩:=hrel;by_cases a6:k+k+1<n;·(
 have a7:I.size=cs.size:=J.1;obtain⟨x1,R⟩:=HS.out (n-1-k) (by omega);obtain⟨x2,Y⟩:=HS.out k (by omega);rw[←J.mid (by omega) (by omega)] at R;rw[←J.mid (by omega) (by omega)] at Y;have e:((n:Int)-1-k)=((n-1-k:Nat):Int):=by omega
 obtain⟨j,hj⟩:=eQ (n-1-k);rw[e,←hj];rw[←hj] at R;have c1:=o.cell j;have c2:=o.cell k;have f1:=o.free j;have f2:=o.free k;rw[R] at c1;rw[Y] at c2;have a8:k<j:=by omega
 have b0:j<n:=by omega
 have HT:=J6 o J R Y hj C;clear o J R Y C hj e;go_wp2_with fail
 go_region
 go_wp2;go_roundg (n-(k+1))
 ·obtain⟨o,J,R,Y,hj,C⟩:=HT.out;subst hj;refine⟨k+1,(I.setIfInBounds k (.int .i64 x1)).setIfInBounds (n-1-k) (.int .i64 x2),by omega,rfl,by go_num,by go_num,?_,?_,J.step a6 hn R Y⟩;·exact((C.setCell (.inl fun h=>h rfl) _).setCell (.inl fun h=>h rfl) _).drew
  exact((o.set k _).set (n-1-k) _).drew
 omega)
 go_wp2
 go_end0
 exact⟨rfl,C,I,o,fun m hm=>J.full (by omega) m hm⟩
structure Cw (ll:List (List Int))(ord:List Nat):Prop where
 op:zJ (dH ll) ll.length (fun x=>ord.idxOf x)
 len:ord.length=ll.length
 zero:ord[0]? =some 0
 at':∀(m:Nat) x,ord[m]? =some x→ord.idxOf x=m
 lt:∀x∈ord,x<ll.length
theorem JB {ll:List (List Int)}(o:aP ll){s:List Nat}(h:jg (dH ll) 0 s)(C:(s++[0]).Nodup)(hm:∀x,x∈s++[0]↔aQ ll 0 x)(I:∀k,k<ll.length→aQ ll 0 k):Cw ll (s++[0]).reverse:=by have j:∀x,x∈s++[0]↔x<ll.length:=fun x=>(hm x).trans ⟨fun h=>tB o o.1 h,fun h=>I x h⟩;obtain⟨J,R,Y,h4⟩:=Lu (fun a b e=>⟨lq e,EU o e⟩) h C j;exact⟨J,R,Y,h4,fun x hx=>(j x).1 (List.mem_reverse.1 hx)⟩
theorem tT {n:Nat}(h:n≤1000000):(Lit.int .i64 (n:Int)).wf=true:=by simp only[Lit.wf,IntKind.min,IntKind.max,IntKind.signed,IntKind.bits,gE,qal,if_true];omega
theorem Aj (S:Nat→Prop)(v:Value)(ll:List (List Int))(w:World)(hv:Rows S w v ll)(hR:aP ll)(hL:∀k,k<ll.length→aQ ll 0 k):
 Calls prog 61 #[v] w fun e w'=>∃u ord,e=.returned u∧aa All w w'∧aK (fun b=>w.heap.size≤b) w' u (ord.map Int.ofNat)∧Cw ll ord:=by
 have o:=gt S v ll w hv;rw[bL hR] at o;have b7:=fun C (hk:aa All w C)=>jh (aq.keep hk.all hv);obtain⟨a,cap,rfl,h1,h2,c1,h⟩:=hv;have hl:ll.length≤256:=hR.2.1;have HR:=J4 o b7 hR hL;clear h h1 h2 c1 o b7 hR hL;go_enter func61,ntmps61;go_wp2_with fail;refine HR.1.mono ?_;rintro e C ⟨rfl,b5⟩;have HK:=oH b5
 have hw:=Et C.heap.size _ ll 0 (C.alloc (.cells #[.slice none 0 0] 38)) (aq.wide (T:=fun b=>b<(C.alloc (.cells #[.slice none 0 0] 38)).heap.size∧b≠C.heap.size) (fun b hb=>by simp;omega) (aq.keep ((aa.refl All C).alloc _).all (HR.2.1 _ b5))) HR.2.2.1 HR.2.2.1.1 (.inl (by simp))
  ⟨by simp;omega,by simp[qL],.slice none 0 0,(((((al.new _ _ _).alloc _).alloc _).alloc _).alloc _).alloc _,rfl,.inl ⟨rfl,rfl⟩⟩
 have HW:=oH hw;clear b5 hw;go_wp2_with fail;refine HW.out.mono ?_;rintro e w2 ⟨u,s,rfl,a1,_,⟨c2,c3,vs,b6,c4⟩,I,b8,b0⟩;have j:=JB HR.2.2.1 I b8 b0 HR.2.2.2;have a6:((s++[0]).map Int.ofNat).length=ll.length:=by rw[ce,←j.len,List.length_reverse]
 have b1:(s++[0]).length=ll.length:=by rw[←j.len,List.length_reverse]
 have h0:=b6.cl 0;obtain⟨_,b2⟩:=c4;rw[b1] at b2;rcases b2 with ⟨_,hn⟩|⟨g,J,cur,rfl,hg,hh,b9,c5,c6,c0⟩;·have:=HR.2.2.1.1;omega
 have R:∀m,m<ll.length→cur[m]? =some (.int .i64 (((s++[0]).map Int.ofNat).getD m 0)):=by(
 intro m hm;have e1:(cur.toList.take (ll.length*1))[m]? =(aI ((s++[0]).map Int.ofNat))[m]?:=by rw[c0]
 rw[rY (by omega)] at e1;simp only[Array.getElem?_toList] at e1;rw[e1];simp only[aI,cL,iG];rw[lG (by omega)];rfl)
 have b3:=xk g ll.length J _ cur w2 hh (by omega) HR.2.2.1.1 hl b9 (fun m hm=>⟨_,R m hm⟩);have HV:=oH b3;have HA:=J5 a1 j R a6 b6;have c7:C.heap.size≠g:=by simp at hg;omega
 have c8:J≤9223372036854775807:=by unfold maxLen at c5;omega
 have d9:C.heap.size≤g:=by simp at hg;omega
 clear b3 a1 j R a6 b1 c0 c6 hh I b8 b0 c2 c3 b6 hg;go_wp2_with fail;refine HV.out.mono ?_;rintro e w3 ⟨rfl,Y,e0,a7,a8⟩;have h1:=(HA.2.2.2.2.kept Y c7).cl 0;have HC:=J3 Y a7 a8;have HP:=oH (st (some ⟨g,0,none⟩) ll.length J w3 b9 c8);clear Y a7 a8 h0;go_wp2_with fail;refine HP.out.mono ?_;rintro e w4 ⟨rfl,rfl⟩;go_wp2_with fail;go_ret;obtain⟨a1,j,R,a6,_⟩:=HA.out;obtain⟨Y,a7,a8⟩:=HC.out;have c9:aa All C w3:=by
  have d7:aa (fun b=>b<C.heap.size) (C.alloc (.cells #[.slice none 0 0] 38)) w2:=a1.mono fun b hb=>by omega
  have d8:aa (fun b=>b<C.heap.size) w2 w3:=Y.mono fun b hb=>by omega
  exact am ((((aa.refl _ C).alloc _).trans d7).trans d8)
 refine⟨_,(s++[0]).reverse,rfl,HK.out.trans c9,?_,j⟩;have b4:((s++[0]).reverse.map Int.ofNat).length=ll.length:=by rw[ce,j.len]
 rw[←b4];refine Sl.of_blk a7 (by have:=HK.out.size;omega) (cf _) (by unfold maxLen;omega) (by omega) fun i x hx=>?_;have hi:i<ll.length:=by rw[←b4];exact(lS.1 hx).1
 refine⟨.int .i64 x,?_,rfl,?_⟩
 ·rw[a8 i hi,R _ (by omega),iG]
  rw[List.map_reverse,List.getElem?_reverse (by omega)] at hx;rw[←a6,hx];rfl
 rw[cL] at hx;obtain⟨y,hy,rfl⟩:=oE.1 hx;have:=j.lt y (mG hy);exact tT (by omega)
theorem uf {N:Nat}{p q:Nat→Bool}(h:∀k,k<N→p k=q k):az N p=az N q:=by unfold az;congr 1;refine List.map_congr_left fun k j=>?_;rw[h k (fg.1 j)]
theorem Ei (S:Nat→Prop)(v:Value)(ll:List (List Int))(w:World)(hv:Rows S w v ll)(hR:aP ll):
 Calls prog 17 #[v] w (uz (cV (iN ll) ll.length) w):=by
 have C:=gt S v ll w hv;rw[bL hR] at C;have J:=fun w1 (hk:aa All w w1)=>sd S v ll w1 (aq.keep hk.all hv) hR;have b0:=fun w1 (hk:aa All w w1)=>aq.keep hk.all hv;obtain⟨a,cap,rfl,h1,h2,c6,h⟩:=hv;have hl:ll.length≤256:=hR.2.1;have HR:=J4 C J b0 hR;clear h h1 h2 c6 C J b0 hR;have c7:=fun w=>iy ll.length (by omega) w;go_enter func17,ntmps17;go_wp2_with fail;refine HR.1.mono ?_;rintro e w1 ⟨rfl,b6⟩;have J:=HR.2.1 w1 b6;have HK:=J2 b6 J;clear b6 J;go_wp2_with fail;refine HK.2.mono ?_;rintro e w2 ⟨u,rfl,b9,hb⟩;have HB:=J2 (HK.1.trans b9) (jh hb);clear b9 hb;go_wp2_with fail;go_loopg [20] ll.length (fun g i wr=>∃i':Nat,i'≤ll.length∧g=ll.length-i'∧i=.int .i64 i'∧aa All w2 wr∧w2.heap.size<wr.heap.size∧al wr w2.heap.size 4 (az ll.length (lr ll i')));·exact⟨0,by omega,by omega,rfl,kR.alloc _,by simp,by rw[KV];exact al.new _ _ _⟩
 clear c7;obtain⟨i,hi,rfl,rfl,R,c8,o⟩:=hrel;by_cases c0:i<ll.length;·(
 obtain⟨row,b7⟩:=eG c0;obtain⟨b1,o1,c1,rfl,c9,e2,A3,c3,rfl,r1,r2,_,rh⟩:=bn (HR.2.2.1 wr (HB.1.trans R)) b7;have Y:=J3 R o b7;clear R b7 c9 rh o r1 r2;by_cases hz:0<row.length
 ·go_wp2_with fail
  go_roundg (ll.length-(i+1));·exact⟨i+1,by omega,rfl,by go_num,Y.1,c8,by rw[IG Y.2.2 hz];exact Y.2.1⟩
  omega
 obtain rfl:row=[]:=oD (by omega);have hw:=Es (wr.heap.size+5) u (gF ll) i wr (aq.wide (fun b hb=>⟨by have:=Y.1.size;omega,by have:=Y.1.size;omega⟩) (aq.keep Y.1.all HB.2)) (xN HR.2.2.2) (by rw[fK];exact c0) (.inr rfl) trivial;have HW:=oH hw;clear hw;go_wp2_with fail;refine HW.out.mono ?_;rintro e w3 ⟨uu,s,rfl,c2,c5,_⟩;have b2:aa (fun b=>b<wr.heap.size) wr w3:=c2.mono fun b hb=>by omega
 have b8:aa All wr w3:=am b2;have a1:(en (gF ll) i).length=ll.length:=by simp[en,fK]
 have a6:=fun wn (hk:aa (fun b=>b≠w2.heap.size) w3 wn)=>cR.keep (hk.mono fun b (hb:wr.heap.size≤b)=>by show b≠_;omega) c5;obtain⟨b4,c4,rfl,l1,l2,l3,_⟩:=c5;rw[a1] at l1 l3 a6⊢;have HX:=J4 b8 (Y.2.1.kept b8 trivial) a6 a1;clear c2 b2 b8 a6 a1;go_wp2_with fail;go_loopg [32] ll.length (fun g k wx=>∃k':Nat,k'≤ll.length∧g=ll.length-k'∧k=.int .i64 k'∧aa (fun b=>b≠w2.heap.size) w3 wx∧al wx w2.heap.size 4 (az ll.length (pz ll i k')));·exact⟨0,by omega,by omega,rfl,kR,by rw[KW];exact HX.2.1⟩
 obtain⟨k,hk,rfl,rfl,a7,o⟩:=hrel;by_cases b3:k<ll.length;·(
 obtain⟨b5,o5,v5,rfl,d7,d8,rfl⟩:=bn (HX.2.2.1 _ a7) (nU (by rw[fK];exact b3));have a8:=o.cell k;have d9:=o.free k;rw[bj b3,IJ] at a8;have I:∀b,(lr ll i k||ay (gF ll) i k)=b→(az ll.length (pz ll i k)).setIfInBounds k (.bool b)=az ll.length (pz ll i (k+1)):=fun b hb=>dg (by rw[CP];exact hb) (fun j _ hj=>IK hj);obtain⟨p,hp⟩:=eR (lr ll i k);obtain⟨q,hq⟩:=eR (ay (gF ll) i k);rw[hp] at I a8;rw[hq] at I d8;have HY:=J3 a7 o I;clear a7 o I hp hq d7;cases p with
 |true=>
  go_wp2_with fail;go_roundg (ll.length-(k+1));·exact⟨k+1,by omega,rfl,by go_num,HY.1.setCell (.inl fun h=>h rfl) _,by rw[←HY.2.2 true rfl];exact HY.2.1.set _ _⟩
  omega
 |false=>
  go_wp2_with fail;go_roundg (ll.length-(k+1));·exact⟨k+1,by omega,rfl,by go_num,HY.1.setCell (.inl fun h=>h rfl) _,by rw[←HY.2.2 q rfl];exact HY.2.1.set _ _⟩
  omega)
 obtain rfl:k=ll.length:=by omega
 have HY:=J2 a7 o;clear a7 o;go_wp2_with fail;go_roundg (ll.length-(i+1))
 ·have e0:aa All w2 _:=am ((Y.1.trans HX.1).all.trans (HY.1.mono fun b (hb:b<w2.heap.size)=>by show b≠_;omega))
  refine⟨i+1,by omega,rfl,by go_num,e0,by have:=HX.1.size;have:=HY.1.size;omega,?_⟩;rw[←uf fun k hk=>FA HR.2.2.2 Y.2.2 hk];exact HY.2
 omega)
 obtain rfl:i=ll.length:=by omega
 have HF:=oH (uZ _ _ _ wr (iT (S:=All) o trivial hl (fun k _=>rfl)));have Y:=oH R;clear R o;go_wp2_with fail;refine HF.out.mono ?_;rintro e w3 ⟨rfl,hw⟩;have e1:=hw.symm;subst e1;rw[De];go_wp2_with fail;go_ret2;exact⟨rfl,HB.1.trans Y.out⟩
theorem oS {n k:Nat}{t u:Nat→Int}{x:Int}(o:u k=x)(C:∀j,j<n→j≠k→u j=t j):(aN n t).setIfInBounds k (.int .i64 x)=aN n u:=by
 rw[fZ];refine ex fun j I=>?_;unfold lu;by_cases e:j=k;·subst e;rw[ap rfl,o]
 rw[ae e,C j I e]
structure qQ (n:Nat)(pl:Nat→Nat)(t:Nat→Int)(pb tb g h:Nat)(w:World):Prop where
 pp:al w pb 38 #[.slice (some ⟨g,0,none⟩) n n]
 tp:al w tb 38 #[.slice (some ⟨h,0,none⟩) n n]
 pn:al w g 3 (aN n fun k=>pl k)
 tn:al w h 3 (aN n t)
theorem qQ.keep {n pb j g h:Nat}{pl:Nat→Nat}{t:Nat→Int}{S:Nat→Prop}{w o:World}(k:aa S w o)(C:S pb)(I:S j)(J:S g)(R:S h)(T:qQ n pl t pb j g h w):qQ n pl t pb j g h o:=
 ⟨T.pp.kept k C,T.tp.kept k I,T.pn.kept k J,T.tn.kept k R⟩
theorem Gf (n:Nat)(pl:Nat→Nat)(t:Nat→Int)(pb tb g h a b:Nat)(w:World)(_:n≤256)(G:fU n pl t)(h0:pl 0=0)(inj:∀a b,a<n→b<n→pl a=pl b→a=b)(lt:∀a,a<n→pl a<n)
 (ha:a<n) (hb:b<n) (pa:my t a) (I:my t b) (T:qQ n pl t pb tb g h w):
 Calls prog 62 #[.int .i64 a,.int .i64 b,.pointer (some ⟨pb,0,none⟩),.pointer (some ⟨tb,0,none⟩)] w fun e w'=>∃m:Nat,e=.returned (.int .i64 m)∧m<n∧(∀x,ig t m x↔ig t a x∧ig t b x)∧aa All w w':=by
 have hT:=fun wn (hk:aa All w wn)=>T.keep hk trivial trivial trivial trivial;have HG:=J4 G h0 inj lt;have HA:=J3 pa I hT;clear G h0 inj lt pa I T hT;go_enter func62,ntmps62;go_wp2;go_loopg [0,1] (pl a+pl b) (fun gg x y wr=>∃j o:Nat,gg=pl j+pl o∧x=.int .i64 j∧y=.int .i64 o∧j<n∧o<n∧my t j∧my t o∧(∀x,(ig t j x∧ig t o x)↔(ig t a x∧ig t b x))∧aa All w wr);·exact⟨a,b,rfl,rfl,rfl,ha,hb,HA.1,HA.2.1,fun x=>Iff.rfl,kR⟩
 obtain⟨j,o,rfl,rfl,rfl,J,Y,pa,I,hx,R⟩:=hrel;have T:=HA.2.2 wr R;have c0:=T.pp.cl 0;have c1:=T.tp.cl 0;have c2:=T.pn.cell j;have c3:=T.pn.cell o;have c4:=T.tn.cell j;have c5:=T.tn.cell o;rw[bI J] at c2 c4;rw[bI Y] at c3 c5;have la:=HG.2.2.2 j J;have lb:=HG.2.2.2 o Y;clear T;by_cases he:j=o
 ·have HX:=J2 R hx;clear R hx;have te:((j:Int) !=o)=false:=by rw[gj];omega
  have HE:=oH he;clear he;go_wp2_with fail;go_ret;have he:=HE.out;subst he;exact⟨j,rfl,J,fun x=>⟨fun h=>(HX.2 x).1 ⟨h,h⟩,fun h=>((HX.2 x).2 h).1⟩,HX.1⟩
 have te:((j:Int) !=o)=true:=by rw[bne_iff_ne];omega
 have a8:pl j≠pl o:=fun e=>he (HG.2.2.1 j o J Y e);clear he;by_cases b0:pl o<pl j
 ·obtain⟨p,hp,a7,a1,b1,C⟩:=vz HG.1 J Y pa b0 HG.2.1;rw[hp] at c4;have HX:=J4 R (fun x=>(C x).symm.trans (hx x)) a1 I;clear R hx C a1 I pa hp;go_wp2_with fail;go_quiet (fail);go_wp2_with fail;go_roundg (pl p+pl o);·exact⟨p,o,rfl,rfl,rfl,a7,Y,HX.2.2.1,HX.2.2.2,HX.2.1,HX.1.drewN _⟩
  omega
 have a6:pl j<pl o:=by omega
 obtain⟨p,hp,a7,a1,b1,C⟩:=vz HG.1 Y J I a6 HG.2.1;rw[hp] at c5;have HX:=J4 R (fun x=>(and_comm.trans ((C x).symm.trans and_comm)).trans (hx x)) a1 pa;clear R hx C a1 I pa hp a8 a6;go_wp2_with fail;go_quiet (fail);go_wp2_with fail;go_roundg (pl j+pl p);·exact⟨j,p,rfl,rfl,rfl,J,a7,HX.2.2.2,HX.2.2.1,HX.2.1,HX.1.drewN _⟩
 omega
section
theorem tX {P:Program}{a:Act}{w:World}{Q:Exit→Act→World→Prop}{c rest:Code}(l:Nat)(J:Nat→Act→World→Prop)(Y:findLabel c l=some (Code.skip.seq rest))
 (pass:∀m a w,J m a w→rest.wp P (Exit.jump l (fun o C=>∃j,j<m∧J j o C) Q) a w)
 (first:(∀m a w,J m a w→rest.wp P (Exit.jump l (fun o C=>∃j,J j o C) Q) a w)→c.wp P (Exit.jump l (fun o C=>∃j,J j o C) Q) a w):(Code.scope c).wp P Q a w:=by
 refine wp_scope_jumps l (fun o C=>∃j,J j o C) (fun o C=>Go.leastOf fun m=>J m o C) Y (first fun m a w I=>wp_mono (pass m a w I) ?_) ?_;·(
 intro e o C h;cases e with
 |goto l'=>exact⟨h.1,let⟨j,_,hm⟩:=h.2;⟨j,hm⟩⟩
 |normal=>exact h
 |exit id=>exact h
 |ret=>exact h
 |panic ch=>exact h
 |outgrown=>exact h)
 rintro a w I;obtain⟨h1,h2⟩:=Go.leastOf_spec (p:=fun m=>J m a w) I;refine wp_seq (wp_skip (wp_mono (pass _ a w h1) ?_));intro e o C h;cases e with
 |goto l'=>obtain⟨h3,j,hm,R⟩:=h;refine⟨h3,⟨j,R⟩,?_⟩;have:=(Go.leastOf_spec (p:=fun m=>J m o C) ⟨j,R⟩).2 j R;show Go.leastOf _<Go.leastOf _;omega
 |normal=>exact h
 |exit id=>exact h
 |ret=>exact h
 |panic ch=>exact h
 |outgrown=>exact h
theorem Is (T:Array Value)(n:Nat)(h:T.size=n):T=((List.range n).map fun i=>T.getD i undef).toArray:=by
 apply Array.ext_getElem?;intro i;by_cases hi:i<n;·simp[hi,h]
 rw[jK (by omega),jK (by simp;omega)]
def kD (ord:List Nat)(i k:Nat):Int:=if ord.idxOf k<i then ord.idxOf k else 0
theorem Gx {ll:List (List Int)}{ord:List Nat}(O:Cw ll ord){j:Nat}(C:j<ll.length):ord[ord.idxOf j]? =some j:=by
 have I:=O.op.lt j C;have o:ord.idxOf j<ord.length:=by rw[O.len];exact I
 rw[lG o,List.getElem_idxOf]
theorem DG {ll:List (List Int)}{ord:List Nat}(O:Cw ll ord){i k:Nat}(h:ord[i]? =some k):kD ord (i+1) k=i:=by unfold kD;rw[O.at' i k h,ap (by omega)]
theorem DH {ll:List (List Int)}{ord:List Nat}(O:Cw ll ord){i k j:Nat}(h:ord[i]? =some k)(I:j<ll.length)(o:j≠k):kD ord (i+1) j=kD ord i j:=by
 have:ord.idxOf j≠i:=fun e=>by have:=Gx O I;rw[e,h] at this;exact o (kJ this).symm
 unfold kD;by_cases C:ord.idxOf j<i;·rw[ap (by omega),ap C]
 rw[ae (by omega),ae C]
theorem AL {ll:List (List Int)}{ord:List Nat}(O:Cw ll ord){k:Nat}(j:k<ll.length):kD ord ll.length k=ord.idxOf k:=by unfold kD;rw[ap (O.op.lt k j)]
theorem BW {n:Nat}{pl:Nat→Nat}{t:Nat→Int}(G:fU n pl t)(C:n≤256){j:Nat}(o:j<n):(Lit.int .i64 (t j)).wf=true:=by
 by_cases h:0≤t j
 ·obtain⟨p,e,I,_⟩:=G.low j o h
  rw[e];exact tT (by omega)
 have:=G.neg j o;rw[show t j= -1 by omega];decide
open Classical in
noncomputable def vM (ll:List (List Int))(k:Nat):List Nat:=(List.range ll.length).filter fun a=>decide (dH ll a k)
theorem GL (ll:List (List Int))(k:Nat):di ll ll.length k=(vM ll k).map fun(n:Nat)=>(n:Int):=rfl
open Classical in
theorem DJ {ll:List (List Int)}{k p:Nat}:p∈vM ll k↔dH ll p k:=by unfold vM;rw[List.mem_filter,fg,qal];exact⟨fun h=>h.2,fun h=>⟨lq h,h⟩⟩
open Classical in
theorem DI (ll:List (List Int))(k:Nat):(vM ll k).length≤ll.length:=by unfold vM;have:=List.length_filter_le (fun a=>decide (dH ll a k)) (List.range ll.length);rwa [List.length_range] at this
def Ke (ll:List (List Int))(J:Value)(o:World)(m:Nat)(a:Act)(w:World):Prop:=
 ∃(ord:List Nat) (pl:Nat→Nat) (t:Nat→Int) (pb j g h:Nat) (C I:Value),m=xd pl ll.length t ll.length∧zJ (dH ll) ll.length pl∧(ord.length=ll.length∧∀(m:Nat) x,ord[m]? =some x→pl x=m∧x<ll.length)∧rR (dH ll) ll.length pl t∧
  (a.defers=[]∧a.tmps.size=110∧a.tmps.getD 0 undef=J∧a.tmps.getD 5 undef=C∧a.tmps.getD 6 undef=I∧a.tmps.getD 7 undef=.pointer (some ⟨pb,0,none⟩)∧a.tmps.getD 10 undef=.pointer (some ⟨j,0,none⟩)∧a.tmps.getD 12 undef=.func (.func 62) #[] #[.pointer (some ⟨pb,0,none⟩),.pointer (some ⟨j,0,none⟩)])∧
  aa All o w∧aK (fun b=>b≠h) w C (ord.map fun(n:Nat)=>(n:Int))∧Rows (fun b=>b≠h) w I (gF ll)∧qQ ll.length pl t pb j g h w∧o.heap.size≤h∧pb≠h∧j≠h∧g≠h
theorem En {ll:List (List Int)}{R:Value}{I:World}{m:Nat}{a:Act}{w:World}(h:Ke ll R I m a w):
 ∃(f:Nat→Value) (ord:List Nat) (pl:Nat→Nat) (t:Nat→Int) (pb j g h:Nat) (o C:Value),m=xd pl ll.length t ll.length∧zJ (dH ll) ll.length pl∧(ord.length=ll.length∧∀(m:Nat) x,ord[m]? =some x→pl x=m∧x<ll.length)∧rR (dH ll) ll.length pl t∧
 a= {tmps:=#[R,f 1,f 2,f 3,f 4,o,C,.pointer (some ⟨pb,0,none⟩),f 8,f 9,.pointer (some ⟨j,0,none⟩),f 11,.func (.func 62) #[] #[.pointer (some ⟨pb,0,none⟩),.pointer (some ⟨j,0,none⟩)],f 13,f 14,f 15,f 16,f 17,f 18,f 19,f 20,f 21,f 22,f 23,f 24,f 25,f 26,f 27,f 28,f 29,f 30,f 31,f 32,f 33,f 34,f 35,f 36,f 37,f 38,f 39,f 40,f 41,f 42,f 43,f 44,f 45,f 46,f 47,f 48,f 49,f 50,f 51,f 52,f 53,f 54,f 55,f 56,f 57,f 58,f 59,f 60,f 61,f 62,f 63,f 64,f 65,f 66,f 67,f 68,f 69,f 70,f 71,f 72,f 73,f 74,f 75,f 76,f 77,f 78,f 79,f 80,f 81,f 82,f 83,f 84,f 85,f 86,f 87,f 88,f 89,f 90,f 91,f 92,f 93,f 94,f 95,f 96,f 97,f 98,f 99,f 100,f 101,f 102,f 103,f 104,f 105,f 106,f 107,f 108,f 109],defers:=[]}∧
 aa All I w∧aK (fun b=>b≠h) w o (ord.map fun(n:Nat)=>(n:Int))∧Rows (fun b=>b≠h) w C (gF ll)∧qQ ll.length pl t pb j g h w∧I.heap.size≤h∧pb≠h∧j≠h∧g≠h:=by
 obtain⟨ord,pl,t,pb,j,g,h,o,C,h1,h2,J,h3,⟨d1,d2,d30,d35,d36,d37,d310,d312⟩,h4⟩:=h;obtain⟨T,D⟩:=a;simp only at d1 d2 d30 d35 d36 d37 d310 d312;have Y:=Is T 110 d2;generalize hf:(fun i=>T.getD i undef)=f at Y;have hg:∀i,T.getD i undef=f i:=fun i=>by rw[←hf]
 rw[hg] at d30 d35 d36 d37 d310 d312;refine⟨f,ord,pl,t,pb,j,g,h,o,C,h1,h2,J,h3,?_,h4⟩;rw[d1,Y,←d312,←d310,←d37,←d36,←d35,←d30];rfl
theorem Hu (S:Nat→Prop)(v:Value)(ll:List (List Int))(w:World)(hv:Rows S w v ll)(hR:aP ll)(hL:∀k,k<ll.length→aQ ll 0 k):
 Calls prog 34 #[v] w fun e w'=>∃u t pl,e=.returned u∧aa All w w'∧aK (fun b=>w.heap.size≤b) w' u (lV ll.length t)∧mz ll t pl:=by
 have b0:=fun w1 (R:aa All w w1)=>gt S v ll w1 (aq.keep R.all hv);rw[bL hR] at b0;have c9:∀w1,aa All w w1→Calls prog 16 #[v] w1 fun e w'=>e=.returned (.tuple #[.int .i64 0,.bool false])∧aa All w1 w':=fun w1 R=>by refine(yC S v ll w1 (aq.keep R.all hv) hR).mono ?_;rw[hZ fun k R h=>h.2 (hL k R)];exact fun e w' h=>h
 have h4:=fun w1 (R:aa All w w1)=>Aj S v ll w1 (aq.keep R.all hv) hR hL;have d7:=fun w1 (R:aa All w w1)=>sd S v ll w1 (aq.keep R.all hv) hR;obtain⟨a,cap,rfl,h1,h2,k3,h⟩:=hv;have hl:ll.length≤256:=hR.2.1;have l0:1≤ll.length:=hR.1;have HR:=J5 c9 b0 h4 d7 hR;clear h h1 h2 k3 b0 c9 h4 d7 hR hL;have k4:=fun w=>wX ll.length (by omega) w;go_enter func34,ntmps34;go_wp2;refine tX 0 (Ke ll (.slice a ll.length cap) w) rfl ?pass ?first
 case first=>(
 intro HP;have HP:=oH HP;go_wp2_with fail;refine(HR.1 _ kR).mono ?_;rintro e w1 ⟨rfl,i6⟩;have i7:=oH i6;clear i6;go_wp2_with fail;refine(HR.2.1 _ i7.out).mono ?_;rintro e w2 ⟨rfl,j0⟩;have j1:=oH (i7.out.trans j0);clear j0;go_wp2_with fail;refine(HR.2.2.1 _ j1.out).mono ?_;rintro e w3 ⟨u,ord,rfl,j2,h8,hO⟩;have HO:=J3 (j1.out.trans j2) (kV h8) hO;have d8:(ord.map Int.ofNat).length=ll.length:=by rw[ce,hO.len]
 have c4:=ah.la h8;obtain⟨oa,oc,rfl,o1,o2,o3,_⟩:=h8;rw[d8] at o1 o3 c4 HO⊢;have HV:=oH c4;clear j2 hO c4;go_wp2_with fail;refine(HR.2.2.2.1 _ HO.1).mono ?_;rintro e w4 ⟨ub,rfl,h9,j3⟩;have HB:=J3 (HO.1.trans h9) h9 (jh j3);clear h9 j3;go_wp2_with fail;go_loopg [39] ll.length (fun gg x wr=>∃i:Nat,i≤ll.length∧gg=ll.length-i∧x=.int .i64 i∧aa All w4 wr∧w4.heap.size+1<wr.heap.size∧al wr w4.heap.size 3 (aN ll.length (kD ord i))∧al wr (w4.heap.size+1) 38 #[.slice (some ⟨w4.heap.size,0,none⟩) ll.length ll.length]);·exact⟨0,by omega,by omega,rfl,(kR.alloc _).alloc _,by simp,(al.new _ _ _).alloc _,ac (by simp)⟩
 obtain⟨i,hi,rfl,rfl,J,k5,C,a7⟩:=hrel;have c1:=a7.cl 0;by_cases d9:i<ll.length
 ·obtain⟨k,R⟩:∃k,ord[i]? =some k:=⟨_,lG (by rw[HO.2.2.len];exact d9)⟩;obtain⟨b5,o5,v5,rfl,_,i1,rfl,_⟩:=bn (i:=i) (x:=(k:Int)) (HV.out wr (HB.2.1.trans J)) (by rw[cL,R];rfl);have b2:=HO.2.2.lt k (mG R);have c2:=C.cell k;have f2:=C.free k;rw[bI b2] at c2;have Y:(aN ll.length (kD ord i)).setIfInBounds k (.int .i64 i)=aN ll.length (kD ord (i+1)):=oS (DG HO.2.2 R) fun j hj b7=>DH HO.2.2 R hj b7;have HX:=J4 J C a7 Y;clear J C a7 Y R;go_wp2_with fail;go_roundg (ll.length-(i+1));·exact⟨i+1,by omega,rfl,by go_num,HX.1.setCell (.inr (cf _)) _,by simpa using k5,by rw[←HX.2.2.2];exact HX.2.1.set _ _,HX.2.2.1.far (by simp) _⟩
  omega
 obtain rfl:i=ll.length:=by omega
 have HX:=J3 J C a7;clear J C a7;obtain⟨w5,rfl⟩:=eQ wr;go_wp2_with fail;go_loopg [54] ll.length (fun gg x wr=>∃i:Nat,i≤ll.length∧gg=ll.length-i∧x=.int .i64 i∧aa All w5 wr∧w5.heap.size+1<wr.heap.size∧al wr w5.heap.size 3 (aN ll.length (fun k=>if k<i then-1 else 0))∧al wr (w5.heap.size+1) 38 #[.slice (some ⟨w5.heap.size,0,none⟩) ll.length ll.length]);·exact⟨0,by omega,by omega,rfl,(kR.alloc _).alloc _,by simp,(al.new _ _ _).alloc _,ac (by simp)⟩
 obtain⟨i,hi,rfl,rfl,J,j4,C,a7⟩:=hrel;have c1:=a7.cl 0;by_cases d9:i<ll.length
 ·have c2:=C.cell i;have f2:=C.free i;rw[bI d9] at c2;have Y:(aN ll.length (fun k=>if k<i then-1 else 0)).setIfInBounds i (.int .i64 (-1))=aN ll.length (fun k=>if k<i+1 then-1 else 0):=oS (ap (by omega)) fun j hj b7=>by
   by_cases h:j<i;·rw[ap h,ap (by omega)]
   rw[ae h,ae (by omega)]
  have HY:=J4 J C a7 Y;clear J C a7 Y;go_wp2_with fail;go_roundg (ll.length-(i+1));·exact⟨i+1,by omega,rfl,by go_num,HY.1.setCell (.inr (cf _)) _,by simpa using j4,by rw[←HY.2.2.2];exact HY.2.1.set _ _,HY.2.2.1.far (by simp) _⟩
  omega
 obtain rfl:i=ll.length:=by omega
 have HY:=J3 J C a7;clear J C a7;go_wp2_with fail
 go_step3
 rename_i hK;refine hK _ _ (HP.out (xd (fun x=>ord.idxOf x) ll.length (fun _=> -1) ll.length) _ _ ?_);have O:=HO.2.2;have e1:aN ll.length (kD ord ll.length)=aN ll.length (fun x=>(ord.idxOf x:Int)):=ex fun k R=>AL O R;have e2:aN ll.length (fun k=>if k<ll.length then-1 else 0)=aN ll.length (fun _=>(-1:Int)):=ex fun k R=>ap R;have b1:=HX.2.1;have b3:=HY.2.1;rw[e1] at b1;rw[e2] at b3;have s4:=HX.1.size;have s3:=HB.2.1.size;have s0:=HO.1.size
 refine⟨ord,fun x=>ord.idxOf x,fun _=> -1,w4.heap.size+1,w5.heap.size+1,w4.heap.size,w5.heap.size,_,_,rfl,O.op,⟨O.len,fun m x hx=>⟨O.at' m x hx,O.lt x (mG hx)⟩⟩,Jr O.op fun _ _=>rfl,⟨rfl,rfl,rfl,rfl,rfl,rfl,rfl,rfl⟩,
  (HB.1.trans HX.1).trans HY.1,?_,?_,⟨HX.2.2.kept HY.1 trivial,HY.2.2,b1.kept HY.1 trivial,b3⟩,by omega,by omega,by omega,by omega⟩
 ·exact ah.wide (fun b hb=>by have:b<w3.heap.size:=hb;omega) (ah.keep ((HB.2.1.trans HX.1).trans HY.1).all HO.2.1)
 exact aq.wide (fun b hb=>by have:b<w4.heap.size:=hb;omega) (aq.keep (HX.1.trans HY.1).all HB.2.2))
 clear k4;intro m aj wj hJ;obtain⟨f,ord,pl,t,pb,tb,pn,tn,V5,V6,rfl,O,⟨d8,OA⟩,K,rfl,e0,c4,j5,hT,hh,n1,n2,n3⟩:=En hJ;clear hJ;have c3:=fun wn (R:aa (fun b=>b≠tn) wj wn)=>ah.keep R c4;have e3:=fun wn (R:aa (fun b=>b≠tn) wj wn)=>aq.keep R j5;have h5:(ord.map fun(n:Nat)=>(n:Int)).length=ll.length:=by rw[ce,d8]
 obtain⟨k0,h6⟩:∃k0,ord[0]? =some k0:=⟨_,lG (by omega)⟩;obtain⟨oa,oc,rfl,o1,o2,o3,_⟩:=c4;rw[h5] at o1 o3 c3⊢;obtain⟨ob,oo,vv,rfl,_⟩:=bn (i:=0) (x:=(k0:Int)) (c3 wj kR) (by rw[cL,h6];rfl);obtain⟨ba,bc,rfl,p1,p2,p3,_⟩:=j5;rw[fK] at p1 p3 e3⊢;unfold maxLen at o2 p2;have o:=J8 O OA K e0 c3 e3 hT d8;clear O OA K e0 c3 e3 h5 hT d8 h6;go_wp2_with fail;·(
 subst h;have l1:ll.length≤1:=o1;go_loopg [13,65] (ll.length-1) (fun gg ch x wr=>∃(m:Nat) (b:Bool) (u:Nat→Int),m≤ll.length-1∧gg=ll.length-1-m∧x=.int .i64 m∧ch=.bool b∧gQ (dH ll) ll.length pl t u (m+1)∧fU ll.length pl u∧(b=false→u=t)∧(b=true→∃j,j<ll.length∧u j≠t j)∧aa (fun b=>b≠tn) wj wr∧qQ ll.length pl u pb tb pn tn wr)
 case atStart=>refine⟨0,false,t,by omega,by omega,rfl,rfl,GA t 1 fun k R h0=>?_,o.2.2.1.1.good,fun _=>rfl,(fun h=>by cases h),kR,o.2.2.2.2.2.2.1⟩;have e1:pl k≠pl 0:=fun e=>h0 (o.1.inj _ _ R o.1.pos e);have e2:=o.1.zero;omega
 obtain⟨m,b,u,hm,rfl,rfl,rfl,hP,hG,b8,C,J,hT⟩:=hrel;by_cases d9:m<ll.length-1;·exfalso;omega
 obtain rfl:m=ll.length-1:=by omega
 rw[show ll.length-1+1=ll.length by omega] at hP;have k6:=hT.tp.cl 0;have I:=J6 hP hG b8 C J hT;clear hP hG b8 C J hT;cases b with
 |true=>
  go_wp2_with fail
  go_step3
  refine⟨rfl,_,((GH o.1 o.2.2.1 I.2.1 I.1 _ (cf _)).2 (I.2.2.2.1 (by simp))),ord,pl,u,pb,tb,pn,tn,_,_,rfl,o.1,⟨o.2.2.2.2.2.2.2,o.2.1⟩,sN o.1 o.2.2.1 I.2.1 I.1,⟨rfl,rfl,rfl,rfl,rfl,rfl,rfl,rfl⟩,
   am (o.2.2.2.1.all.trans (I.2.2.2.2.1.mono fun b (hb:b<w.heap.size)=>by show b≠tn;omega)),o.2.2.2.2.1 _ I.2.2.2.2.1,o.2.2.2.2.2.1 _ I.2.2.2.2.1,I.2.2.2.2.2,hh,n1,n2,n3⟩
 |false=>go_wp2_with fail;simp only[Exit.jump];go_ret;obtain rfl:u=t:=I.2.2.1 (by simp);have G:=I.2.1;have O:=o.1;refine⟨_,u,pl,rfl,am (o.2.2.2.1.all.trans (I.2.2.2.2.1.mono fun b (hb:b<w.heap.size)=>by show b≠tn;omega)),sL I.2.2.2.2.2.tn (by omega) (by omega) (fun i hi=>BW G hl hi),⟨O,G,fun j hj=>js I.1 j hj (O.lt j hj),fun j hj x=>BK O o.2.2.1 I.1 hj⟩⟩)
 skip;go_loopg [13,65] (ll.length-1) (fun gg ch x wr=>∃(m:Nat) (b:Bool) (u:Nat→Int),m≤ll.length-1∧gg=ll.length-1-m∧x=.int .i64 m∧ch=.bool b∧gQ (dH ll) ll.length pl t u (m+1)∧fU ll.length pl u∧(b=false→u=t)∧(b=true→∃j,j<ll.length∧u j≠t j)∧aa (fun b=>b≠tn) wj wr∧qQ ll.length pl u pb tb pn tn wr)
 case atStart=>refine⟨0,false,t,by omega,by omega,rfl,rfl,GA t 1 fun k R h0=>?_,o.2.2.1.1.good,fun _=>rfl,(fun h=>by cases h),kR,o.2.2.2.2.2.2.1⟩;have e1:pl k≠pl 0:=fun e=>h0 (o.1.inj _ _ R o.1.pos e);have e2:=o.1.zero;omega
 obtain⟨m,b,u,hm,rfl,rfl,rfl,hP,hG,b8,C,J,hT⟩:=hrel;by_cases d9:m<ll.length-1;·(
 obtain⟨k,R⟩:∃k,ord[m+1]? =some k:=⟨_,lG (by rw[o.2.2.2.2.2.2.2];omega)⟩;obtain⟨c5,b2⟩:=o.2.1 _ k R;have e0:k≠0:=fun e=>by subst e;have:=o.1.zero;omega
 obtain⟨b5,o5,v5,k7,_,i1,rfl,_⟩:=bn (i:=m+1) (x:=(k:Int)) (o.2.2.2.2.1 wr J) (by rw[cL,R];rfl);cases k7;rw[show oo+(m+1)=oo+1+m by omega] at i1;obtain⟨q,hq⟩:=eR (vM ll k);have j6:∀p,p∈q↔dH ll p k:=fun p=>by rw[←hq];exact DJ
 have l2:q.length≤256:=by rw[←hq];exact fR (DI ll k) hl
 obtain⟨rb,ro,rv,rfl,_,j7,j8⟩:=bn (x:=q.map fun(n:Nat)=>(n:Int)) (o.2.2.2.2.2.1 wr J) (by rw[mX b2,GL,hq]);have e4:=ah.la j8;obtain⟨qa,qc,rfl,q1,q2,q3,_⟩:=j8;rw[ce] at q1 q3 e4 j7;have j9:=fun wn (R:aa All wr wn)=>hT.keep R trivial trivial trivial trivial;have HN:=J10 hP hG b8 C J j9 j6 e4 c5 e0;clear hP hG b8 C J hT j9 j6 e4 R hq c5 e0;obtain⟨wo,rfl⟩:=eQ wr;go_wp2_with fail;go_loopg [16,74] q.length (fun gg nr x wr=>∃(j:Nat) (v:Int),j≤q.length∧gg=q.length-j∧x=.int .i64 j∧nr=.int .i64 v∧lA u (q.take j) v∧aa All wo wr);·exact⟨0,-1,by omega,by omega,rfl,rfl,by rw[List.take_zero];exact Dv u,kR⟩
 clear i1 j7;obtain⟨j,v,hj,rfl,rfl,rfl,hN,a8⟩:=hrel;have T:=HN.2.2.2.2.2.1 _ a8;have c0:=T.tp.cl 0;by_cases k1:j<q.length;·(
 obtain⟨p,hp⟩:=eG k1;have e5:q.take (j+1)=q.take j++[p]:=by rw[cU,hp];rfl
 obtain⟨b6,o6,v6,rfl,_,l3,rfl,_⟩:=bn (i:=j) (x:=(p:Int)) (HN.2.2.2.2.2.2.2.1 _ a8) (by rw[cL,hp];rfl);have k2:=lq ((HN.2.2.2.2.2.2.1 p).1 (mG hp));have e6:=fun c (hN:lA u (q.take j) (c:Nat))=>AF HN.2.1 (fun p hp=>lq ((HN.2.2.2.2.2.2.1 p).1 (List.mem_of_mem_take hp))) hN;have c1:=T.tn.cell p;rw[bI k2] at c1;clear hp;by_cases a1:my u p;·(
 have hw:=fun(y:Int) (hy:u p=y) (c:Nat) (hN:lA u (q.take j) c)=>Gf ll.length pl u pb tb pn tn c p wr hl HN.2.1 o.1.zero o.1.inj o.1.lt (e6 c hN).1 k2 (e6 c hN).2 a1 T;have b4:p=0∨0≤u p:=a1;obtain⟨y,hy⟩:=eR (u p);rw[hy] at c1 b4;have HP:=J5 a8 e5 hN a1 (hw y hy);rcases Du hN with rfl|⟨c,rfl⟩;·(
 clear a8 e5 hN a1 hw e6 T hy;by_cases a6:p=0
 ·have t0:((p:Int) !=0)=false:=by rw[gj];omega
  clear a6 b4;go_wp2_with fail;go_roundg (q.length-(j+1));·exact⟨j+1,p,by omega,rfl,by go_num,rfl,by rw[HP.2.1];exact rd HP.2.2.1 (by decide) HP.2.2.2.1,HP.1⟩
  omega
 have t0:((p:Int) !=0)=true:=by rw[bne_iff_ne];omega
 have c6:¬y<0:=by omega
 have ty:decide (y<0)=false:=by simpa using c6
 clear a6 b4;go_wp2_with fail;go_roundg (q.length-(j+1));·exact⟨j+1,p,by omega,rfl,by go_num,rfl,by rw[HP.2.1];exact rd HP.2.2.1 (by decide) HP.2.2.2.1,HP.1⟩
 omega)
 have hm:=HP.2.2.2.2 c hN;have HM:=oH hm;have tc:decide ((c:Int)<0)=false:=by simp
 clear a8 e5 hN a1 hw e6 T hy hm;by_cases a6:p=0
 ·have t0:((p:Int) !=0)=false:=by rw[gj];omega
  clear a6 b4;go_wp2_with fail;refine HM.out.mono ?_;rintro e w8 ⟨mm,rfl,k8,e7,e8⟩;have e9:=J2 e7 e8;clear e7 e8;go_wp2_with fail;go_roundg (q.length-(j+1));·exact⟨j+1,mm,by omega,rfl,by go_num,rfl,by rw[HP.2.1];exact sY HP.2.2.1 HP.2.2.2.1 e9.1,HP.1.trans e9.2⟩
  omega
 have t0:((p:Int) !=0)=true:=by rw[bne_iff_ne];omega
 have c6:¬y<0:=by omega
 have ty:decide (y<0)=false:=by simpa using c6
 clear a6 b4;go_wp2_with fail;refine HM.out.mono ?_;rintro e w8 ⟨mm,rfl,k8,e7,e8⟩;have e9:=J2 e7 e8;clear e7 e8;go_wp2_with fail;go_roundg (q.length-(j+1));·exact⟨j+1,mm,by omega,rfl,by go_num,rfl,by rw[HP.2.1];exact sY HP.2.2.1 HP.2.2.2.1 e9.1,HP.1.trans e9.2⟩
 omega)
 have a6:p≠0:=fun e=>a1 (.inl e);have c6:u p<0:=by refine Classical.byContradiction fun h=>a1 (.inr (by omega))
 obtain⟨y,hy⟩:=eR (u p);rw[hy] at c1 c6;have t0:((p:Int) !=0)=true:=by rw[bne_iff_ne];omega
 have ty:decide (y<0)=true:=by simpa using c6
 have HP:=J4 a8 e5 hN a1;clear a8 e5 hN a1 e6 T hy a6;go_wp2_with fail;go_roundg (q.length-(j+1));·exact⟨j+1,v,by omega,rfl,by go_num,rfl,by rw[HP.2.1];exact AG HP.2.2.1 HP.2.2.2,HP.1⟩
 omega)
 obtain rfl:j=q.length:=by omega
 rw[dZ] at hN;obtain⟨p0,a6,h7⟩:=o.1.fwd k b2 HN.2.2.2.2.2.2.2.2.2;have c5:=HN.2.2.2.2.2.2.2.2.1;have a1:=js HN.1 p0 (lq a6) (by omega);have b9:=Dt hN HN.2.2.2.2.2.2.1 ⟨p0,a6,a1⟩;obtain⟨h3,c,rfl,l4,k9⟩:=Db o.1 HN.2.1 b2 HN.2.2.2.2.2.2.2.2.2 ⟨p0,a6,h7,a1⟩ b9;have c7:=DF o.1 (by rw[c5];exact HN.1) b2 b9;rw[c5] at c7;have c1:=T.tn.cell k;have f1:=T.tn.free k;rw[bI b2] at c1;have hold:=HN.1.old k (by omega);obtain⟨y,hy⟩:=eR (u k);rw[hy] at c1 hold;have Y:(aN ll.length u).setIfInBounds k (.int .i64 c)=aN ll.length (fun j=>if j=k then(c:Int) else u j):=oS (ap rfl) fun j _ b7=>ae b7;clear hN a1 b9 a6 h7 c5 k9;by_cases c8:y=c;·(
 have ty:(y !=(c:Int))=false:=by rw[gj];exact c8
 have hu:(fun j=>if j=k then(c:Int) else u j)=u:=by
  funext j;by_cases e:j=k;·subst e;rw[ap rfl,hy,c8]
  rw[ae e]
 rw[hu] at h3 c7;have I:=J4 h3 c7 a8 T;clear h3 c7 a8 T Y hu hold c8 hy;go_wp2_with fail;go_roundg (ll.length-1-(m+1));·exact⟨m+1,b,u,by omega,rfl,by go_num,rfl,I.2.1,I.1,HN.2.2.1,HN.2.2.2.1,HN.2.2.2.2.1.trans I.2.2.1.all,I.2.2.2⟩
 omega)
 have ty:(y !=(c:Int))=true:=by rw[bne_iff_ne];exact c8
 have b7:∃j,j<ll.length∧(if j=k then(c:Int) else u j)≠t j:=⟨k,b2,by rw[ap rfl,←hold];exact fun e=>c8 e.symm⟩;have I:=J6 h3 c7 a8 T Y b7;clear h3 c7 a8 T Y hold c8 hy b7;go_wp2_with fail;go_roundg (ll.length-1-(m+1))
 ·have T:=I.2.2.2.1
  refine⟨m+1,true,fun j=>if j=k then(c:Int) else u j,by omega,rfl,by go_num,rfl,I.2.1,I.1,(fun h=>by cases h),fun _=>I.2.2.2.2.2,(HN.2.2.2.2.1.trans I.2.2.1.all).setCell (.inl fun h=>h rfl) _,⟨T.pp.far n1 _,T.tp.far n2 _,T.pn.far n3 _,?_⟩⟩;rw[←I.2.2.2.2.1];exact T.tn.set _ _
 omega)
 obtain rfl:m=ll.length-1:=by omega
 rw[show ll.length-1+1=ll.length by omega] at hP;have k6:=hT.tp.cl 0;have I:=J6 hP hG b8 C J hT;clear hP hG b8 C J hT;cases b with
 |true=>
  go_wp2_with fail
  go_step3
  refine⟨rfl,_,((GH o.1 o.2.2.1 I.2.1 I.1 _ (cf _)).2 (I.2.2.2.1 (by simp))),ord,pl,u,pb,tb,pn,tn,_,_,rfl,o.1,⟨o.2.2.2.2.2.2.2,o.2.1⟩,sN o.1 o.2.2.1 I.2.1 I.1,⟨rfl,rfl,rfl,rfl,rfl,rfl,rfl,rfl⟩,
   am (o.2.2.2.1.all.trans (I.2.2.2.2.1.mono fun b (hb:b<w.heap.size)=>by show b≠tn;omega)),o.2.2.2.2.1 _ I.2.2.2.2.1,o.2.2.2.2.2.1 _ I.2.2.2.2.1,I.2.2.2.2.2,hh,n1,n2,n3⟩
 |false=>go_wp2_with fail;simp only[Exit.jump];go_ret;obtain rfl:u=t:=I.2.2.1 (by simp);have G:=I.2.1;have O:=o.1;refine⟨_,u,pl,rfl,am (o.2.2.2.1.all.trans (I.2.2.2.2.1.mono fun b (hb:b<w.heap.size)=>by show b≠tn;omega)),sL I.2.2.2.2.2.tn (by omega) (by omega) (fun i hi=>BW G hl hi),⟨O,G,fun j hj=>js I.1 j hj (O.lt j hj),fun j hj x=>BK O o.2.2.1 I.1 hj⟩⟩
end
end Go.Proofs.YtccbbkopmlnkpaaGreatDoor
