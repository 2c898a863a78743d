/- Part 10 of the proof of CallsTo (its last part says what is proved). No condition. -/
import Derived.Deep.DeepCutAuto
import Derived.Test.YtceloincoomjeaaGreatDoorK8
namespace Go.Proofs.YtceloincoomjeaaGreatDoor
set_option maxRecDepth 100000
set_option maxHeartbeats 8000000
open Go.RowKit Go.Proofs.Tryz
section
open Go.RowKit Go.WideMaps Go.Maps
theorem Gm:Keyed prog 9:=string_keyed underlying9
theorem Gn (w:World):(zeroValue 3).run prog w=.ok (.int .i64 0) w:=by kernel_rfl
def wW (s:ByteArray):Lit:=.string s.data.toList
theorem yB {s t:ByteArray}(h:wW s=wW t):s=t:=by unfold wW at h;injection h with h;cases s;cases t;congr 1;exact Array.toList_inj.1 h
theorem sT (s:ByteArray):WideAt.IsKeyLit (wW s):=trivial
theorem mC {l:List ByteArray}{s:ByteArray}(h:s∉l):aO (l++[s]) s=l.length:=by
 refine lL (k:=l.length) (x:=s) (by rw[kH (cf _),Nat.sub_self];rfl) (cM.2 rfl) fun y j=>?_;rw[List.take_left] at j;cases o:(y.toList==s.toList) with
 |false=>rfl
 |true=>exact absurd (cM.1 o▸j) h
theorem oz {l:List ByteArray}{s t:ByteArray}(h:t≠s):aO (l++[s]) t=aO l t:=by
 by_cases j:t∈l;·have I:l.any (fun x=>x.toList==t.toList)=true:=mW.2 ⟨t,j,cM.2 rfl⟩;have o:(l++[s]).any (fun x=>x.toList==t.toList)=true:=mW.2 ⟨t,eD.2 (.inl j),cM.2 rfl⟩;have C:=List.findIdx_lt_length_of_exists (p:=fun x:ByteArray=>x.toList==t.toList) (xs:=l) (mW.1 I);unfold aO gJ;rw[ap I,ap o,List.findIdx_append,ap C]
 rw[jb j,jb fun h'=>?_];rcases eD.1 h' with h'|h';·exact j h'
 exact h (cx.1 h')
structure KB (D:DataW Unit)(l:List ByteArray):Prop where
 tidy:Tidy D
 size:Maps.size D=l.length
 has:∀s,Maps.has D (wW s)=decide (0≤aO l s)
 val:∀s,D.atKey (wW s) (.lit (.int .i64 0))=.lit (.int .i64 (max (aO l s) 0))
theorem KB.nil:KB (.map []) []:=by
 refine⟨tidy_empty,rfl,fun s=>?_,fun s=>?_⟩;·rw[jb (by simp)];rfl
 rw[jb (by simp)];rfl
theorem KB.put {D:DataW Unit}{l:List ByteArray}(h:KB D l){s:ByteArray}(C:aO l s<0):KB (D.put (wW s) (.lit (.int .i64 l.length))) (l++[s]):=by
 have o:s∉l:=fun hm=>by have:=cm.2 hm;omega
 refine⟨h.tidy.put (sT s) _,?_,fun t=>?_,fun t=>?_⟩;·rw[size_put h.tidy,h.has s,cI (by omega),h.size];simp
 ·by_cases e:t=s
  ·subst e;rw[has_put_same h.tidy.isMap (sT t),mC o];exact(bL (by omega)).symm
  rw[has_put_other fun j=>e (yB j),oz e,h.has t]
 by_cases e:t=s
 ·subst e
  rw[atKey_put_same h.tidy.isMap (sT t),mC o];congr 2;omega
 rw[atKey_put_other fun j=>e (yB j),oz e,h.val t]
def cK (w:World)(b:Nat)(l:List ByteArray):Prop:=∃D,w.ownsMap prog 9 (plainElem prog 3) b l.length D∧KB D l
section
variable {w w':World} {b:Nat} {l:List ByteArray}
theorem cK.new (w:World):cK (w.alloc (.map #[] 0)) w.heap.size []:=⟨_,World.ownsMap_made _ _ _ _,KB.nil⟩
theorem cK.lt (h:cK w b l):b<w.heap.size:=by obtain⟨D,h,_⟩:=h;exact h.lt
theorem cK.keep {S:Nat→Prop}(h:cK w b l)(k:aa S w w')(o:S b):cK w' b l:=by obtain⟨D,h,C⟩:=h;have j:=h.lt;obtain⟨es,clock,I,r⟩:=h;exact⟨D,⟨es,clock,(k.block b j o).trans I,r⟩,C⟩
theorem cK.look (h:cK w b l){s:ByteArray}(R:s.size≤maxLen):(Instr.lookup 161 (.map (some b)) (.string s) true).run prog w=.ok (.tuple #[.int .i64 (max (aO l s) 0),.bool (decide (0≤aO l s))]) w:=by obtain⟨D,h,C⟩:=h;obtain⟨v,ps,o,Y⟩:=h.look_ok Gm underlying161 (Gn w) (plainElem_int underlying3 (by decide)) (keyOf_string_mk underlying9 R);obtain⟨c,rfl,Z,_⟩:=plainElem_int_inv underlying3 Y;have j:=congrArg Prod.fst Z;have I:=C.val s;have J:=C.has s;unfold wW at I J;rw[I] at j;rw[J] at o;injection j with j;injection j with _ j;rw[←j] at o;exact o
theorem cK.get (h:cK w b l){s:ByteArray}(I:s.size≤maxLen):(Instr.lookup 161 (.map (some b)) (.string s) false).run prog w=.ok (.int .i64 (max (aO l s) 0)) w:=by obtain⟨D,h,J⟩:=h;obtain⟨c,j,o,_⟩:=h.lookup_int Gm underlying161 underlying3 (Gn w) (keyOf_string_mk underlying9 I);have C:=J.val s;unfold wW at C;rw[C] at o;injection o with o;injection o with _ o;rw[←o] at j;exact j
theorem cK.len (h:cK w b l)(ty:TypeId):(Builtin.len_ #[161] ty #[.map (some b)]).run prog w=.ok (.int .i64 l.length) w:=by obtain⟨D,h,j⟩:=h;rw[h.len underlying161,j.size]
theorem gN {ops:Array Oper}{rest:List Oper}{o:Oper}{a:Act}{Q:Exit→Act→World→Prop}(C:o.guard=none)(m x v:Operand)(j:o.op=Op.mapUpdate 161 m x v)
 (b:Nat) (l:List ByteArray) (hm:a.eval m=.map (some b)) (h:cK w b l) (hl:l.length<1000000) (s:ByteArray) (I:a.eval x=.string s) (J:a.eval v=.int .i64 l.length) (R:s.size≤maxLen) (Y:aO l s<0)
 (Z:∀w',cK w' b (l++[s])→w.grownBy w' (some b)→wpList prog ops Q rest (a.put o.dst undef) w'):wpList prog ops Q (o::rest) a w:=by
 obtain⟨D,hD,hd⟩:=h
 refine wpList_mapUpdate_own (H:=Unit) w C m x v 161 j 9 3 Gm underlying161 _ b l.length D hm hD (by unfold maxLen;omega) _ _ _ I J (keyOf_string_mk underlying9 R) _ []
  (plainElem_int underlying3 (by simp[Lit.wf,IntKind.min,IntKind.max,IntKind.signed,IntKind.bits];omega)) fun w' h1 h2=>Z w' ⟨_,by rw[iQ];exact h1,hd.put Y⟩ h2
end
end
structure jx (x:bz):Prop where
 kind:x.kind<256
 op:x.op<256
 dst:aV x.dst
 ref:aV x.ref
 Ni:aV x.Ni
 num:aV x.num
 Nj:aV x.Nj
def KD:cO bz:=fun S w cs x=>∃a f,cs=[.int .u8 x.kind,.int .u8 x.op,.int .i64 x.dst,.int .i64 x.ref,.int .i64 x.Ni,a,f,.int .i64 x.num,.int .i64 x.Nj]∧aK S w a x.args∧aK S w f x.Nh∧jx x
theorem sH:cO.Good KD:=by
 constructor
 ·rintro S w C cs x k ⟨a,f,e,j,l,o⟩
  exact⟨a,f,e,ah.keep k j,ah.keep k l,o⟩
 rintro S T w cs x k ⟨a,f,e,j,l,o⟩;exact⟨a,f,e,ah.wide k j,ah.wide k l,o⟩
abbrev tZ:=rx 9 96 KD
theorem cT:bT.Good tZ:=cH sH
abbrev bW:=Sl 24 tZ
theorem bg:bT.Good bW:=oR cT
def qO:cO aw:=fun S w cs b=>∃v,cs=[.int .i64 b.params,.int .i64 b.vars,v]∧bW S w v b.Ng∧aV b.params∧aV b.vars
theorem gI:cO.Good qO:=by
 constructor
 ·rintro S w o cs x k ⟨v,e,j,l⟩
  exact⟨v,e,bg.keep k j,l⟩
 rintro S T w cs x k ⟨v,e,j,l⟩;exact⟨v,e,bg.wide k j,l⟩
abbrev mL:=rx 3 40 qO
theorem bV:bT.Good mL:=cH gI
def rI:cO (Int×Int):=fun _ _ cs x=>cs=[.int .i64 x.1,.int .i64 x.2]∧aV x.1∧aV x.2
theorem jq:cO.Good rI:=⟨fun _ h=>h,fun _ h=>h⟩
abbrev ev:=rx 2 16 rI
theorem bu:bT.Good ev:=cH jq
def cQ (S:Nat→Prop)(w:World)(v:Value)(c:aE):Prop:=∃a f,v=.agg #[a,f,.int .i64 c.main]∧ev S w a c.Nd∧mL S w f c.Nf∧aV c.main
theorem dc:bT.Good cQ:=by
 constructor
 ·rintro S w C v c k ⟨a,f,e,j,l,o⟩
  exact⟨a,f,e,bu.keep k j,bV.keep k l,o⟩
 rintro S T w v c k ⟨a,f,e,j,l,o⟩;exact⟨a,f,e,bu.wide k j,bV.wide k l,o⟩
structure uB (x:cX):Prop where
 kind:x.kind<256
 op:x.op<256
 num:aV x.num
 Nj:aV x.Nj
 dst:x.dst.size≤140737488355328
 ref:x.ref.size≤140737488355328
 Ni:x.Ni.size≤140737488355328
 args:∀s∈x.args,s.size≤140737488355328
 Nh:∀s∈x.Nh,s.size≤140737488355328
def zH:cO cX:=fun S w cs x=>∃a f,cs=[.int .u8 x.kind,.int .u8 x.op,.string x.dst,.string x.ref,.string x.Ni,a,f,.int .i64 x.num,.int .i64 x.Nj]∧gB S w a x.args∧gB S w f x.Nh∧uB x
theorem nM:cO.Good zH:=by
 constructor
 ·rintro S w C cs x k ⟨a,f,e,j,l,o⟩
  exact⟨a,f,e,ax.keep k j,ax.keep k l,o⟩
 rintro S T w cs x k ⟨a,f,e,j,l,o⟩;exact⟨a,f,e,ax.wide k j,ax.wide k l,o⟩
abbrev Im:=rx 9 120 zH
theorem it:bT.Good Im:=cH nM
def qh:cO eS:=fun S w cs b=>∃v,cs=[.string b.name,v,.int .i64 b.Nj]∧Im S w v b.code∧aV b.Nj∧b.name.size≤140737488355328
theorem lK:cO.Good qh:=by
 constructor
 ·rintro S w o cs x k ⟨v,e,j,l⟩
  exact⟨v,e,it.keep k j,l⟩
 rintro S T w cs x k ⟨v,e,j,l⟩;exact⟨v,e,it.wide k j,l⟩
abbrev mJ:=rx 3 48 qh
theorem eH:bT.Good mJ:=cH lK
def uA:cO cD:=fun S w cs f=>∃p v,cs=[.string f.name,p,v,.int .i64 f.Nj]∧gB S w p f.params∧mJ S w v f.Ng∧aV f.Nj∧f.name.size≤140737488355328∧∀s∈f.params,s.size≤140737488355328
theorem nj:cO.Good uA:=by
 constructor
 ·rintro S w C cs x k ⟨p,v,e,j,l,o⟩
  exact⟨p,v,e,ax.keep k j,eH.keep k l,o⟩
 rintro S T w cs x k ⟨p,v,e,j,l,o⟩;exact⟨p,v,e,ax.wide k j,eH.wide k l,o⟩
abbrev BC:=rx 4 72 uA
theorem iX:bT.Good BC:=cH nj
def EB:cO EL:=fun _ _ cs a=>cs=[.string a.name,.int .i64 a.size,.string a.level,.int .i64 a.Nj]∧aV a.size∧aV a.Nj∧a.name.size≤140737488355328∧a.level.size≤140737488355328
theorem pH:cO.Good EB:=⟨fun _ h=>h,fun _ h=>h⟩
abbrev Kx:=rx 4 48 EB
theorem lJ:bT.Good Kx:=cH pH
def BF (S:Nat→Prop)(w:World)(v:Value)(q:dN):Prop:=∃a f,v=.agg #[a,f]∧Kx S w a q.Nd∧BC S w f q.Nf
theorem sI:bT.Good BF:=by
 constructor
 ·rintro S w o v c k ⟨a,f,e,j,l⟩
  exact⟨a,f,e,lJ.keep k j,iX.keep k l⟩
 rintro S T w v c k ⟨a,f,e,j,l⟩;exact⟨a,f,e,lJ.wide k j,iX.wide k l⟩
theorem aZ {α:Type}{n bw:Nat}{E:cO α}{S:Nat→Prop}{w:World}{A:Option Addr}{m c:Nat}{l:List α}(h:rx n bw E S w (.slice A m c) l){i:Nat}{x:α}(hi:l[i]? =some x):
 ∃b o cs,A=some ⟨b,o,none⟩∧S b∧cs.length=n∧(∀(j:Nat) c,cs[j]? =some c→w.cell? ⟨b,o+i*n+j,none⟩=some c)∧E S w cs x:=by
 obtain⟨a,cap,C,_,_,_,h⟩:=h;injection C with I J R;subst I;exact h i _ hi
theorem bn {α:Type}{bw:Nat}{E:bT α}{S:Nat→Prop}{w:World}{A:Option Addr}{m c:Nat}{l:List α}(h:Sl bw E S w (.slice A m c) l){i:Nat}{x:α}(hi:l[i]? =some x):
 ∃b o v,A=some ⟨b,o,none⟩∧S b∧w.cell? ⟨b,o+i,none⟩=some v∧E S w v x:=by
 obtain⟨a,cap,j,_,_,_,h⟩:=h;injection j with C I J;subst C;exact h i _ hi
theorem sh {w wn:World}{t:TypeId}{cs:Array Value}(h:aa All (w.alloc (.cells cs t)) wn)(i:Nat):wn.cell? ⟨w.heap.size,i,none⟩=cs[i]?:=((al.new w t cs).kept h trivial).cell i
def KG (e:Ending):Prop:=∃a n:Int,n≠0∧aV a∧aV n∧e=.panicked [{v:=.iface 158 (.agg #[.int .i64 a,.int .i64 n]),recovered:=false}]
def ql (C:Prop)(R:Ending→World→Prop)(w:World)(e:Ending)(w':World):Prop:=(C∧R e w')∨(¬C∧KG e∧aa All w w')
theorem dX (a n:Int)(w:World):Calls prog 106 #[.bool true,.int .i64 a,.int .i64 n] w fun e j=>e=.returned (.tuple #[])∧w=j:=by
 go_enter func106,ntmps106;go_wp2
 go_end0
 exact⟨rfl,rfl⟩
theorem fP (a n:Int)(w:World):Calls prog 106 #[.bool false,.int .i64 a,.int .i64 n] w fun e j=>e=.panicked [{v:=.iface 158 (.agg #[.int .i64 a,.int .i64 n]),recovered:=false}]∧w=j:=by go_enter func106,ntmps106;go_wp2;exact⟨rfl,rfl,rfl⟩
theorem nQ (r a:Int)(w:World):Calls prog 107 #[.int .i64 r,.bool true,.int .i64 a] w fun e j=>e=.returned (.int .i64 r)∧w=j:=by go_enter func107,ntmps107;go_wp2_with (go_at_call 106;refine(dX _ _ _).mono ?_;rintro e j ⟨rfl,rfl⟩);go_ret;exact⟨rfl,rfl⟩
theorem pK (r a:Int)(w:World)(l:aV a):Calls prog 107 #[.int .i64 r,.bool false,.int .i64 a] w fun e j=>KG e∧w=j:=by go_enter func107,ntmps107;go_wp2_with (go_at_call 106;refine(fP _ _ _).mono ?_;rintro e j ⟨rfl,rfl⟩);exact⟨rfl,⟨a,10,by decide,l,by unfold aV;omega,rfl⟩,rfl⟩
theorem lQ (b:Nat)(l:List ByteArray)(s:ByteArray)(a:Int)(w:World)(hm:cK w b l)(I:s.size≤140737488355328)(C:aV a):
 Calls prog 179 #[.map (some b),.string s,.int .i64 a] w fun e j=>ql (0≤aO l s) (fun e j=>e=.returned (.int .i64 (aO l s))∧w=j) w e j:=by
 have o:=hm.look (s:=s) (by unfold maxLen;omega);generalize aO l s=r at*;by_cases h:0≤r;·rw[Int.max_eq_left h,bL h] at o;have H:=oH h;clear h;go_enter func179,ntmps179;go_wp2_with (go_at_call 106;refine(dX _ _ _).mono ?_;rintro e j ⟨rfl,rfl⟩);go_ret;exact .inl ⟨H.out,rfl,rfl⟩
 rw[cI h] at o;have H:=oH h;clear h;go_enter func179,ntmps179;go_wp2_with (go_at_call 106;refine(fP _ _ _).mono ?_;rintro e j ⟨rfl,rfl⟩);exact⟨rfl,.inr ⟨by have:=H.out;omega,⟨a,10,by decide,C,by unfold aV;omega,rfl⟩,kR⟩⟩
def xE (ll:List (List Int))(k:Nat):Prop:=∃e,aQ ll k e∧ll[e]? =some []
theorem tF (S:Nat→Prop)(v:Value)(ll:List (List Int))(a b:Nat)(w:World)(hv:Rows S w v ll)(ha:a<ll.length):
 Calls prog 44 #[v,.int .i64 a,.int .i64 b] w fun e w'=>e=.returned (.bool (pB (dH ll a b)))∧w=w':=by
 obtain⟨A,cap,rfl,h1,h2,h3,h⟩:=hv;obtain⟨row,o⟩:=eG ha;obtain⟨rb,ro,rv,rfl,hs,hc,C⟩:=h a row o;obtain⟨RA,rc,rfl,r1,r2,r3,hR⟩:=C;unfold maxLen at h2 r2;have HR:=J2 hR o;have l:dH ll a b↔(b:Int)∈row:=⟨fun⟨r,e,hm⟩=>by rw[o] at e;cases e;exact hm,fun hm=>⟨row,o,hm⟩⟩;have HA:=oH l;clear h hR o l;go_enter func44,ntmps44;go_wp2_with fail;go_loopg [7] row.length (fun g s wr=>∃k:Nat,k≤row.length∧g=row.length-k∧s=.int .i64 k∧wr=w∧∀(i:Nat) x,i<k→row[i]? =some x→x≠b);·exact⟨0,by omega,by omega,rfl,rfl,fun i x hi=>by omega⟩
 obtain⟨k,hk,rfl,rfl,hw,j⟩:=hrel;have I:=hw.symm;subst I;by_cases J:k<row.length;·(
 obtain⟨x,R⟩:=eG J;obtain⟨xb,xo,c,rfl,Y,a1,rfl,Z⟩:=HR.1 k x R;have HX:=J2 j R;clear j R Y Z;by_cases e:x=(b:Int)
 ·have t:(x==(b:Int))=true:=by rw[cy];exact e
  have HY:=oH (show dH ll a b from HA.2 (e▸mG HX.2));clear e;go_wp2_with fail;go_ret;exact⟨by rw[av HY.out]<;>rfl,rfl⟩
 have t:(x==(b:Int))=false:=by rw[bE];exact e
 have HE:=oH e;clear e;go_wp2_with fail;go_roundg (row.length-(k+1))
 ·refine⟨k+1,by omega,rfl,by go_num,rfl,fun i z hi hz=>?_⟩
  by_cases e:i=k;·subst e;rw[HX.2] at hz;cases hz;exact HE.out
  exact HX.1 i z (by omega) hz
 omega)
 obtain rfl:k=row.length:=by omega
 have HN:=oH (show¬dH ll a b from fun h=>by obtain⟨i,hi⟩:=cY.1 (HA.1 h);exact j i _ (lS.1 hi).1 hi rfl);clear j;go_wp2_with fail;go_ret;exact⟨by rw[au HN.out]<;>rfl,rfl⟩
theorem DV (S:Nat→Prop)(v:Value)(ll:List (List Int))(w:World)(hv:Rows S w v ll)(C:aP ll):
 Calls prog 42 #[v] w fun e w'=>e=.returned (.int .i64 (cV (kO ll) ll.length))∧aa All w w':=by
 have hW:=nF S v ll 0 w hv C (by have:=C.1;omega);obtain⟨A,cap,rfl,h1,h2,h3,h⟩:=hv;have a6:=C.2.1;have HC:=oH hW;clear hW h C;go_enter func42,ntmps42;go_wp2_with fail;refine HC.out.mono ?_;rintro e w1 ⟨u,rfl,R,hB⟩;obtain⟨RA,rc,rfl,r1,r2,r3,C⟩:=hB;unfold maxLen at h2 r2;have o:(en ll 0).length=ll.length:=oX ll 0;rw[o];have HR:=oH C;have HK:=oH R;clear C R r1 r3 o;go_wp2_with fail;go_loopg [4] ll.length (fun g s wr=>∃k:Nat,k≤ll.length∧g=ll.length-k∧s=.int .i64 k∧wr=w1∧∀i:Nat,i<k→ay ll 0 i=true);·exact⟨0,by omega,by omega,rfl,rfl,fun i hi=>by omega⟩
 obtain⟨k,hk,rfl,rfl,hw,l⟩:=hrel;have a1:=hw.symm;subst a1;by_cases I:k<ll.length;·(
 obtain⟨xb,xo,c,rfl,Y,Z,rfl⟩:=HR.out k _ (nU I);cases J:ay ll 0 k with
 |false=>have HY:=oH (show cV (kO ll) ll.length=k from lO I (fun j hj h=>h.2 (aY.1 (l j hj))) ⟨I,fun h=>by rw[aY.2 h] at J;cases J⟩);rw[J] at Z;clear l Y J;go_wp2_with fail;go_ret;exact⟨by rw[HY.out]<;>rfl,HK.out⟩
 |true=>
  rw[J] at Z;have HB:=J2 l J;clear l J Y;go_wp2_with fail;go_roundg (ll.length-(k+1))
  ·refine⟨k+1,by omega,rfl,by go_num,rfl,fun i hi=>?_⟩;by_cases e:i=k;·subst e;exact HB.2
   exact HB.1 i (by omega)
  omega)
 obtain rfl:k=ll.length:=by omega
 have HY:=oH (show cV (kO ll) ll.length= -1 from hZ fun j hj h=>h.2 (aY.1 (l j hj)));clear l;go_wp2_with fail;go_ret;exact⟨by rw[HY.out]<;>rfl,HK.out⟩
theorem AV (S:Nat→Prop)(v:Value)(ll:List (List Int))(f:Nat)(w:World)(hv:Rows S w v ll)(o:aP ll)(hf:f<ll.length):
 Calls prog 67 #[v,.int .i64 f] w fun e w'=>e=.returned (.bool (pB (xE ll f)))∧aa All w w':=by
 have hW:=nF S v ll f w hv o hf;have hV:=aq.la hv;have a8:=o.2.1;have b0:=oH o;obtain⟨A,cap,rfl,h1,h2,h3,h⟩:=hv;have HC:=oH hW;have HV:=oH hV;clear hW h o hV;go_enter func67,ntmps67;go_wp2_with fail;refine HC.out.mono ?_;rintro e w1 ⟨u,rfl,I,hB⟩;obtain⟨RA,rc,rfl,r1,r2,r3,o⟩:=hB;unfold maxLen at h2 r2;have l:(en ll f).length=ll.length:=oX ll f;rw[l];have HR:=oH o;have HK:=oH I;clear o I r1 r3 l;go_wp2_with fail;go_loopg [6] ll.length (fun g s wr=>∃k:Nat,k≤ll.length∧g=ll.length-k∧s=.int .i64 k∧wr=w1∧∀i:Nat,i<k→¬(aQ ll f i∧ll[i]? =some []));·exact⟨0,by omega,by omega,rfl,rfl,fun i hi=>by omega⟩
 obtain⟨k,hk,rfl,rfl,hw,j⟩:=hrel;have a1:=hw.symm;subst a1;by_cases J:k<ll.length;·(
 obtain⟨xb,xo,c,rfl,a6,R,rfl⟩:=HR.out k _ (nU J);obtain⟨row,hr⟩:=eG J;obtain⟨rb,ro,rv,rfl,a7,b1,Y⟩:=bn (HV.out w1 HK.out) hr;obtain⟨b2,b3,rfl,q1,q2,q3,_⟩:=Y;have HL:=oH hr;clear hr a7 a6;cases C:ay ll f k with
 |false=>
  rw[C] at R;have Z:=J2 j (show¬aQ ll f k from fun h=>by rw[aY.2 h] at C;cases C);clear j C;go_wp2_with fail;go_roundg (ll.length-(k+1))
  ·refine⟨k+1,by omega,rfl,by go_num,rfl,fun i hi=>?_⟩;by_cases e:i=k;·subst e;exact fun h=>Z.2 h.1
   exact Z.1 i (by omega)
  omega
 |true=>
  rw[C] at R;have Z:=J2 j (aY.1 C);clear j C;by_cases hz:row.length=0
  ·have t:((row.length:Int)==0)=true:=by rw[cy];omega
   have HY:=oH (show xE ll f from⟨k,Z.2,by rw[HL.out,oD hz]⟩);clear hz;go_wp2_with fail;go_ret;exact⟨by rw[av HY.out]<;>rfl,HK.out⟩
  have t:((row.length:Int)==0)=false:=by rw[bE];omega
  have HZ:=oH hz;clear hz;go_wp2_with fail;go_roundg (ll.length-(k+1))
  ·refine⟨k+1,by omega,rfl,by go_num,rfl,fun i hi=>?_⟩;by_cases e:i=k;·subst e;exact fun h=>by have:=h.2;rw[HL.out] at this;cases this;exact HZ.out rfl
   exact Z.1 i (by omega)
  omega)
 obtain rfl:k=ll.length:=by omega
 have HN:=oH (show¬xE ll f from fun⟨e,h1,h2⟩=>j e (lS.1 h2).1 ⟨h1,h2⟩);clear j;go_wp2_with fail;go_ret;exact⟨by rw[au HN.out]<;>rfl,HK.out⟩
theorem Bb (S:Nat→Prop)(v:Value)(ll:List (List Int))(w:World)(hv:Rows S w v ll)(R:aP ll):
 Calls prog 43 #[v] w fun e w'=>e=.returned (.int .i64 (cV (iN ll) ll.length))∧aa All w w':=by
 have hV:=aq.la hv;have a1:=R.2.1;have Y:=oH R;obtain⟨A,cap,rfl,h1,h2,h3,h⟩:=hv;have HV:=oH hV;unfold maxLen at h2;clear h R hV;go_enter func43,ntmps43;go_wp2_with fail;go_loopg [3] ll.length (fun g s wr=>∃k:Nat,k≤ll.length∧g=ll.length-k∧s=.int .i64 k∧aa All w wr∧∀i:Nat,i<k→xE ll i);·exact⟨0,by omega,by omega,rfl,kR,fun i hi=>by omega⟩
 obtain⟨k,hk,rfl,rfl,o,l⟩:=hrel;by_cases C:k<ll.length;·(
 have HC:=oH (AV S _ ll k wr (HV.out wr o) Y.out C);have Z:=J2 o l;clear o l;go_wp2_with fail;refine HC.out.mono ?_;rintro e w1 ⟨rfl,I⟩;have J:=oH (Z.1.trans I);clear I;by_cases he:xE ll k
 ·rw[av he];have HE:=oH he;clear he;go_wp2_with fail;go_roundg (ll.length-(k+1))
  ·refine⟨k+1,by omega,rfl,by go_num,J.out,fun i hi=>?_⟩
   by_cases e:i=k;·subst e;exact HE.out
   exact Z.2 i (by omega)
  omega
 rw[au he];have HY:=oH (show cV (iN ll) ll.length=k from lO C (fun j hj h=>h.2 (Z.2 j hj)) ⟨C,he⟩);clear he;go_wp2_with fail;go_ret;exact⟨by rw[HY.out]<;>rfl,J.out⟩)
 obtain rfl:k=ll.length:=by omega
 have HY:=oH (show cV (iN ll) ll.length= -1 from hZ fun j hj h=>h.2 (l j hj));have J:=oH o;clear l o;go_wp2_with fail;go_ret;exact⟨by rw[HY.out]<;>rfl,J.out⟩
noncomputable def Kf (ll:List (List Int))(x k:Nat):Bool:=pB (gA (dH ll) x k)
noncomputable def LP (ll:List (List Int))(x:Nat):List Bool:=(List.range ll.length).map (Kf ll x)
theorem ry {ll:List (List Int)}{x k:Nat}:Kf ll x k=true↔gA (dH ll) x k:=by
 unfold Kf;by_cases h:gA (dH ll) x k;·rw[av h];simp[h]
 rw[au h];simp[h]
theorem KK {ll:List (List Int)}{x k:Nat}{p:Nat→Bool}(h:p k=true↔gA (dH ll) x k):p k=Kf ll x k:=by rw[Bool.eq_iff_iff,h,ry]
theorem JF {ll:List (List Int)}(h:aP ll){x b:Nat}(l:gA (dH ll) x b):b<ll.length:=by
 induction l with
 |zero _=>have:=h.1;omega
 |step _ e _ j=>have:=gw h j _ ((kQ j).1 e);omega
def Kc (ll:List (List Int))(nx:Nat)(p0 p:Nat→Bool)(again:Bool)(i:Nat):Prop:=
 p 0=true∧(∀k,p k=true→gA (dH ll) nx k)∧(∀k,p0 k=true→p k=true)∧(again=true→ph ll.length p<ph ll.length p0)∧
 (again=false→∀a,a<i→p a=true→∀j,dH ll a j→j≠nx→p j=true)
theorem Ew (S:Nat→Prop)(v:Value)(ll:List (List Int))(Z:Nat)(w:World)(hv:Rows S w v ll)(hR:aP ll)(e1:Z≠0):
 Calls prog 47 #[v,.int .i64 0,.int .i64 Z] w fun e w'=>∃u,e=.returned u∧aa All w w'∧gD (fun b=>w.heap.size≤b) w' u (LP ll Z):=by
 obtain⟨a,cap,rfl,h1,h2,e2,h⟩:=hv;have H:=oH h;have hl:ll.length≤256:=hR.2.1;have HR:=oH hR;clear h h1 h2 e2 hR;have e3:=fun w=>iy ll.length (by omega) w;have hf:0<ll.length:=by have:=HR.1;omega
 have e4:((0:Int)==(Z:Int))=false:=by rw[bE];omega
 have a1:(az ll.length fun _=>false)[0]? =some (.bool false):=bj hf;have c9:(az ll.length fun _=>false).setIfInBounds 0 (.bool true)=az ll.length (nX (fun _=>false) 0):=dg (dF _ _) (fun j _ hj=>fd hj);go_enter func47,ntmps47;go_wp2;clear a1 c9 e3 e4
 go_loopg [8] (2*ph ll.length (nX (fun _=>false) 0)+1) (fun g ag wr=>∃(p:Nat→Bool) (again:Bool),ag=.bool again∧g=2*ph ll.length p+(if again then 1 else 0)∧al wr w.heap.size 4 (az ll.length p)∧aa All w wr∧
  p 0=true∧(∀k,p k=true→gA (dH ll) Z k)∧(again=false→∀a,a<ll.length→p a=true→∀j,dH ll a j→j≠Z→p j=true))
 case atStart=>
  refine⟨nX (fun _=>false) 0,true,rfl,rfl,al.new _ _ _,kR.alloc _,dF _ _,fun k hk=>?_,fun h=>by cases h⟩;by_cases e:k=0;·subst e;exact .zero e1
  rw[fd e] at hk;cases hk
 obtain⟨p0,again,rfl,rfl,o,l,b5,b6,c6⟩:=hrel;cases again with
 |false=>
  have c3:∀k,k<ll.length→p0 k=Kf ll Z k:=by(
 intro k hk;apply KK;refine⟨b6 k,fun hr=>?_⟩;have key:∀k,gA (dH ll) Z k→p0 k=true:=by
  intro k h;induction h with
  |zero _=>exact b5
  |step e5 e hn ih=>exact c6 rfl _ (JF HR.out e5) ih _ e hn
 exact key k hr)
  have d7:=oH c3;clear c3 c6 b6 b5;go_wp2;go_ret;exact⟨_,rfl,l,iT o (cf _) hl d7.out⟩
 |true=>
  have HP:=J2 b5 b6;clear b5 b6 c6;go_wp2;obtain⟨wo,rfl⟩:=eQ wr;go_loopg [8,9] ll.length (fun g ag i wr=>∃(k:Nat) (p:Nat→Bool) (again:Bool),k≤ll.length∧g=ll.length-k∧i=.int .i64 k∧ag=.bool again∧al wr w.heap.size 4 (az ll.length p)∧aa All w wr∧Kc ll Z p0 p again k);·exact⟨0,p0,false,by omega,by omega,rfl,rfl,o,l,HP.1,HP.2,fun _ h=>h,(fun h=>by cases h),fun _ a ha=>by omega⟩
  clear o l;obtain⟨k,p,again,hk,rfl,rfl,rfl,o,l,C⟩:=hrel;have Y:=oH C;clear C;by_cases b3:k<ll.length;·(
 obtain⟨b1,o1,c1,rfl,h0,c7,he⟩:=H.out k ll[k] (lG b3);obtain⟨ra,e9,rfl,r1,r2,_,rh⟩:=he;have d8:=l.cell (p:=⟨b1,o1+k,none⟩) trivial c7;have c4:=gw HR.out b3;have a6:=fun j=>kQ (j:=j) b3;have e6:ll[k].length≤256:=by have:=du (HR.2.2 _ (eL b3));omega
 have HG:=J4 c4 a6 rh c7;clear c4 a6 rh c7 r1 r2;generalize ll[k]=row at*;have J:wr.cell? ⟨w.heap.size,k,none⟩=some (.bool (p k)):=by rw[o.cell,bj b3]
 cases a8:p k with
 |false=>
  rw[a8] at J;have b7:=oH a8;clear a8;go_wp2;go_roundg (ll.length-(k+1))
  ·obtain⟨q1,q2,q3,q4,q5⟩:=Y.out;refine⟨k+1,p,again,by omega,rfl,by go_num,rfl,o,l,q1,q2,q3,q4,fun h a ha b4=>?_⟩;by_cases e:a=k;·subst e;rw[b7.out] at b4;cases b4
   exact q5 h a (by omega) b4
  omega
 |true=>
  rw[a8] at J;have b7:=oH a8;clear a8;go_wp2;obtain⟨wp,rfl⟩:=eQ wr;clear J d8;go_loopg [8,10] row.length (fun g ag i wr=>∃(m:Nat) (q:Nat→Bool) (again:Bool),m≤row.length∧g=row.length-m∧i=.int .i64 m∧ag=.bool again∧al wr w.heap.size 4 (az ll.length q)∧aa All w wr∧Kc ll Z p0 q again k∧q k=true∧(again=false→∀(i:Nat) x,i<m→row[i]? =some x→x≠Z→q x.toNat=true));·exact⟨0,p,again,by omega,by omega,rfl,rfl,o,l,Y.out,b7.out,fun _ i x hi=>by omega⟩
  clear o l Y b7;obtain⟨m,q,again,hm,rfl,rfl,rfl,o,l,C,R,I⟩:=hrel;have Y:=J3 C R I;clear C R I;have d8:=l.cell (p:=⟨b1,o1+k,none⟩) trivial HG.2.2.2;by_cases a7:m<row.length;·(
 obtain⟨b2,o2,c2,rfl,h3,d9,rfl,h4⟩:=HG.2.2.1 m row[m] (lG a7);have h5:=l.cell (p:=⟨b2,o2+m,none⟩) trivial d9;obtain⟨x0,x1⟩:=HG.1 row[m] (eL a7);have c5:row[m]∈row:=eL a7;have a1:row[m]? =some row[m]:=lG a7;have HM:=J2 c5 a1;clear c5 a1 d9;generalize row[m]=x at*;obtain⟨j,rfl⟩:∃j:Nat,x=j:=⟨x.toNat,by omega⟩;have b8:j<ll.length:=by omega
 have J:wr.cell? ⟨w.heap.size,j,none⟩=some (.bool (q j)):=by rw[o.cell,bj b8]
 have e7:=o.free j;by_cases b9:j=Z;·(
 have e0:((j:Int) !=(Z:Int))=false:=by rw[gj];omega
 have HJ:=oH b9;clear b9;go_wp2;go_roundg (row.length-(m+1))
 ·obtain⟨C,R,I⟩:=Y.out;refine⟨m+1,q,again,by omega,rfl,by go_num,rfl,o,l,C,R,fun h i x hi hx hn=>?_⟩;by_cases e:i=m
  ·subst e
   rw[HM.2] at hx;cases hx;exact absurd (by rw[HJ.out]) hn
  exact I h i x (by omega) hx hn
 omega)
 have e0:((j:Int) !=(Z:Int))=true:=by rw[bne_iff_ne];omega
 have HJ:=oH b9;clear b9;cases b0:q j with
 |true=>
  rw[b0] at J;have c8:=oH b0;clear b0;go_wp2;go_roundg (row.length-(m+1));·(
 obtain⟨C,R,I⟩:=Y.out;refine⟨m+1,q,again,by omega,rfl,by go_num,rfl,o,l,C,R,fun h i x hi hx hn=>?_⟩;by_cases e:i=m
 ·subst e
  rw[HM.2] at hx;cases hx;rw[dP];exact c8.out
 exact I h i x (by omega) hx hn)
  omega
 |false=>
  rw[b0] at J;have c8:=oH b0;clear b0;go_wp2;go_roundg (row.length-(m+1));·(
 obtain⟨⟨q1,q2,q3,q4,q5⟩,R,I⟩:=Y.out;have a6:dH ll k j:=(HG.2.1 j).2 HM.1;refine⟨m+1,nX q j,true,by omega,rfl,by go_num,rfl,?_,l.setCell (p:=⟨w.heap.size,j,none⟩) (.inr (cf _)) _,⟨je _ _ _ q1,fun a ha=>?_,fun a ha=>je _ _ _ (q3 a ha),fun _=>?_,fun h=>by cases h⟩,je _ _ _ R,fun h=>by cases h⟩
 ·rw[←dg (p:=q) (i:=j) (b:=true) (dF _ _) (fun i _ hi=>fd hi)]
  exact o.set _ _
 ·by_cases e:a=j
  ·subst e;exact .step (q2 k R) a6 HJ.out
  rw[fd e] at ha;exact q2 a ha
 exact Nat.lt_of_lt_of_le (jj _ b8 c8.out) (ly _ fun a _ ha=>q3 a ha))
  omega)
  go_wp2;go_roundg (ll.length-(k+1))
  ·obtain⟨⟨q1,q2,q3,q4,q5⟩,R,I⟩:=Y.out;refine⟨k+1,q,again,by omega,rfl,by go_num,rfl,o,l,q1,q2,q3,q4,fun h a ha b4 j hj b8=>?_⟩;by_cases e:a=k;·subst e;have e8:=(HG.2.1 j).1 hj;obtain⟨i,hi,hx⟩:=List.getElem_of_mem e8;have:=I h i (j:Int) (by omega) (by rw[lG hi,hx]) (by omega);rwa [dP] at this
   exact q5 h a (by omega) b4 j hj b8
  omega)
  cases c0:again with
  |true=>
   rw[c0] at Y;clear c0;go_wp2;go_roundg (2*ph ll.length p+1)
   case measure=>have:=Y.2.2.2.1 rfl;simp;omega
   case rel=>exact⟨p,true,rfl,rfl,o,l,Y.1,Y.2.1,fun h=>by cases h⟩
  |false=>
   rw[c0] at Y;clear c0;go_wp2;go_roundg (2*ph ll.length p)
   case measure=>have:=ly ll.length (fun a _ ha=>Y.2.2.1 a ha);simp;omega
   case rel=>exact⟨p,false,rfl,rfl,o,l,Y.1,Y.2.1,fun h a ha=>Y.2.2.2.2 h a (by omega)⟩
theorem JG {E:Nat→Nat→Prop}{x k:Nat}(h:gA E x k):k≠x:=by
 cases h with
 |zero h=>exact fun e=>h e.symm
 |step _ _ h=>exact h
theorem Lx {E:Nat→Nat→Prop}{k:Nat}(h:gA E 0 k):False:=by
 induction h with
 |zero h=>exact h rfl
 |step _ _ _ j=>exact j
theorem Ev (S:Nat→Prop)(v:Value)(ll:List (List Int))(j:Nat)(w:World)(o:Rows S w v ll)(C:aP ll):
 Calls prog 47 #[v,.int .i64 0,.int .i64 j] w fun e I=>∃u,e=.returned u∧aa All w I∧gD (fun b=>w.heap.size≤b) I u (LP ll j):=by
 by_cases J:j=0
 ·subst J;obtain⟨a,cap,rfl,R,Y,l,h⟩:=o;have Z:ll.length≤256:=C.2.1;have a1:=fun w=>iy ll.length (by omega) w;clear h R Y l;go_enter func47,ntmps47;go_wp2_with fail;go_ret;refine⟨_,rfl,kR.alloc _,iT (al.new _ _ _) (cf _) Z fun k _=>?_⟩;cases hb:Kf ll 0 k with
  |false=>rfl
  |true=>exact(Lx (ry.1 hb)).elim
 exact Ew S v ll j w o C J
theorem KL {ll:List (List Int)}{a b:Nat}(j:b<ll.length):(LP ll a)[b]? =some (Kf ll a b):=by unfold LP;rw[cL,ln j];rfl
theorem yX (S:Nat→Prop)(v:Value)(ll:List (List Int))(a b:Nat)(w:World)(j:Rows S w v ll)(o:aP ll)(hb:b<ll.length):
 Calls prog 70 #[v,.int .i64 a,.int .i64 b] w fun e w'=>e=.returned (.bool (pB (¬gA (dH ll) a b)))∧aa All w w':=by
 have Y:=Ev S v ll a w j o;have Z:=o.2.1;obtain⟨A,cap,rfl,h1,h2,h3,h⟩:=j;have HC:=oH Y;clear Y h o;by_cases e:a=b
 ·have t:((a:Int)==(b:Int))=true:=by rw[cy];omega
  have R:=oH (show¬gA (dH ll) a b from fun h=>JG h e.symm);clear e;go_enter func70,ntmps70;go_wp2_with fail;go_ret;exact⟨by rw[av R.out]<;>rfl,kR⟩
 have t:((a:Int)==(b:Int))=false:=by rw[bE];omega
 clear e;go_enter func70,ntmps70;go_wp2_with fail;refine HC.out.mono ?_;rintro e w1 ⟨u,rfl,C,hB⟩;obtain⟨RA,rc,rfl,r1,r2,r3,o⟩:=hB;unfold maxLen at r2;have l:(LP ll a).length=ll.length:=by simp[LP]
 rw[l];obtain⟨xb,xo,c,rfl,I,J,rfl⟩:=o b _ (KL hb);have HK:=oH C;clear o C r1 r3 l;cases j:Kf ll a b with
 |true=>rw[j] at J;have HN:=oH (show¬¬gA (dH ll) a b from fun h=>h (ry.1 j));clear j I;go_wp2_with fail;go_ret;exact⟨by rw[au HN.out]<;>rfl,HK.out⟩
 |false=>rw[j] at J;have R:=oH (show¬gA (dH ll) a b from fun h=>by rw[ry.2 h] at j;cases j);clear j I;go_wp2_with fail;go_ret;exact⟨by rw[av R.out]<;>rfl,HK.out⟩
def dS (m:BitVec 64)(k:Nat):List Nat:=(List.range k).filter fun j=>m.getLsbD j
def Dc (m:BitVec 64)(k:Nat):BitVec 64:=zt (fun j=>decide (k≤j)&&m.getLsbD j) 64
theorem nO (m:BitVec 64)(k j:Nat)(l:j<64):(Dc m k).getLsbD j=(decide (k≤j)&&m.getLsbD j):=by rw[Dc,zu _ _ _ l,bL l];rfl
theorem Mo (m:BitVec 64):Dc m 0=m:=by apply BitVec.eq_of_getLsbD_eq;intro j l;rw[nO _ _ _ l,bL (Nat.zero_le j)];rfl
theorem CJ {x:BitVec 64}{t:Nat}(h:LO x t)(j:Nat)(C:j<64):(x&&&(x-1#64)).getLsbD j=(x.getLsbD j&&decide (j≠t)):=by
 have I:=Cd h;have J:x-1#64= ~~~(-x):=by
  have e:=BitVec.neg_eq_not_add (-x);rw[BitVec.neg_neg] at e;have R:∀y:BitVec 64,x=y+1#64→x-1#64=y:=by rintro y rfl;exact BitVec.add_sub_cancel y 1#64
  exact R _ e
 have l:=congrArg (fun y=>y.getLsbD j) I;have Y:(pw t).getLsbD j=decide (j=t):=by(
 rw[pw,BitVec.getLsbD_shiftLeft];by_cases e:j=t;·subst e;simp[C]
 by_cases o:j<t;·simp[o,e]
 have:j-t≠0:=by omega
 simp[o,this,e])
 simp only[BitVec.getLsbD_and,Y] at l;rw[J,BitVec.getLsbD_and,BitVec.getLsbD_not];by_cases e:j=t
 ·subst e
  rw[bL rfl] at l;rw[gE] at l;rw[l.2];simp
 rw[cI e] at l;cases Z:x.getLsbD j with
 |false=>simp
 |true=>
  rw[Z] at l;have h5:(-x).getLsbD j=false:=by simpa using l
  rw[h5];simp[C,e]
theorem FO {m:BitVec 64}{k t:Nat}(h:LO (Dc m k) t):Dc m k&&&(Dc m k-1#64)=Dc m (t+1)∧k≤t∧t<64∧m.getLsbD t=true∧dS m (t+1)=dS m k++[t]:=by
 have Y:=h.1;have J:=h.2.1;rw[nO _ _ _ Y,gE,iH] at J;have l:∀j,k≤j→j<t→m.getLsbD j=false:=by intro j o C;have:=h.2.2 j C;rw[nO _ _ _ (by omega),bL o] at this;simpa using this
 refine⟨?_,J.1,Y,J.2,?_⟩;·(
 apply BitVec.eq_of_getLsbD_eq;intro j C;rw[CJ h j C,nO _ _ _ C,nO _ _ _ C];by_cases o:k≤j;·(
 by_cases R:j<t;·rw[l j o R];simp
 by_cases e:j=t
 ·have I:¬t+1≤j:=by omega
  rw[cI I,cI (fun h:j≠t=>h e)];simp
 have I:t+1≤j:=by omega
 simp[o,e,I])
 have I:¬t+1≤j:=by omega
 simp[o,I])
 unfold dS;have e:List.range (t+1)=List.range k++(List.range (t-k)).map (k+·)++[t]:=by rw[List.range_succ];congr 1;have:=List.range_add (n:=k) (m:=t-k);rw[←this];congr 1;omega
 rw[e,mE,mE];have Z:((List.range (t-k)).map (k+·)).filter (fun j=>m.getLsbD j)=[]:=by rw[List.filter_eq_nil_iff];intro a ha;obtain⟨i,hi,rfl⟩:=dr.1 ha;have:=fg.1 hi;rw[l _ (by omega) (by omega)];exact oG
 rw[Z,List.append_nil];simp[J.2]
theorem Jj {m:BitVec 64}{k:Nat}(h:Dc m k=0#64)(R:k≤64):dS m k=dS m 64:=by
 have l:∀j,k≤j→j<64→m.getLsbD j=false:=by intro j o C;have:=congrArg (fun y=>y.getLsbD j) h;simp only[nO _ _ _ C,bL o,BitVec.getLsbD_zero] at this;simpa using this
 unfold dS;have e:List.range 64=List.range k++(List.range (64-k)).map (k+·):=by have:=List.range_add (n:=k) (m:=64-k);rw[←this];congr 1;omega
 rw[e,mE];have I:((List.range (64-k)).map (k+·)).filter (fun j=>m.getLsbD j)=[]:=by rw[List.filter_eq_nil_iff];intro a J;obtain⟨i,hi,rfl⟩:=dr.1 J;have:=fg.1 hi;rw[l _ (by omega) (by omega)];exact oG
 rw[I,List.append_nil]
theorem ko {m:BitVec 64}{k j:Nat}:j∈dS m k↔j<k∧m.getLsbD j=true:=by unfold dS;rw[List.mem_filter,fg]
theorem xP {m:BitVec 64}{pre:List Nat}{k:Nat}(h:pre++[k]<+:dS m 64):(k<64∧m.getLsbD k=true)∧∀j,j<k→m.getLsbD j=true→j∈pre:=by
 obtain⟨t,o⟩:=h;have C:k∈dS m 64:=by rw[←o];simp
 refine⟨ko.1 C,fun j J hm=>?_⟩;have l:j∈dS m 64:=ko.2 ⟨by have:=(ko.1 C).1;omega,hm⟩;rw[←o,jM,eD] at l;rcases l with h|h;·exact h
 exfalso;have I:(dS m 64).Pairwise (·<·):=List.Pairwise.filter _ List.pairwise_lt_range;rw[←o,jM] at I;have:=(List.pairwise_append.1 I).2.1;simp only[List.cons_append,mF] at h this;rcases fX.1 h with rfl|h;·omega
 have:=(List.pairwise_cons.1 this).1 j h;omega
end Go.Proofs.YtceloincoomjeaaGreatDoor
