/- Part 8 of the proof (its last part says what is proved). No condition. -/
import Derived.Deep.DeepCutAuto
import Derived.StillTailTactics
import Derived.RangeFuncNested
import Derived.RangeFuncBound
import Derived.Shelf.RegionOpen
import Derived.OwnWalkIn
import Derived.LoopNIn
import Derived.LoopIn
import Derived.Test.YtgdlhckhpolnnaaGreatDoorK6
namespace Go.Proofs.YtgdlhckhpolnnaaGreatDoor
set_option maxRecDepth 100000
set_option maxHeartbeats 8000000
open Go.RowKit Go.Proofs.Tryz
section
open Go.RowKit Go.WideMaps Go.Maps
theorem Gm:Keyed prog 9:=string_keyed underlying9
theorem Gn (w:World):(zeroValue 3).run prog w=.ok (.int .i64 0) w:=by kernel_rfl
def wW (s:ByteArray):Lit:=.string s.data.toList
theorem yB {s t:ByteArray}(h:wW s=wW t):s=t:=by unfold wW at h;injection h with h;cases s;cases t;congr 1;exact Array.toList_inj.1 h
theorem sT (s:ByteArray):WideAt.IsKeyLit (wW s):=trivial
theorem mC {l:List ByteArray}{s:ByteArray}(h:s∉l):aO (l++[s]) s=l.length:=by
 refine lL (k:=l.length) (x:=s) (by rw[kH (cf _),Nat.sub_self];rfl) (cM.2 rfl) fun y j=>?_;rw[List.take_left] at j;cases o:(y.toList==s.toList) with
 |false=>rfl
 |true=>exact absurd (cM.1 o▸j) h
theorem oz {l:List ByteArray}{s t:ByteArray}(h:t≠s):aO (l++[s]) t=aO l t:=by
 by_cases j:t∈l;·have I:l.any (fun x=>x.toList==t.toList)=true:=mW.2 ⟨t,j,cM.2 rfl⟩;have o:(l++[s]).any (fun x=>x.toList==t.toList)=true:=mW.2 ⟨t,eD.2 (.inl j),cM.2 rfl⟩;have C:=List.findIdx_lt_length_of_exists (p:=fun x:ByteArray=>x.toList==t.toList) (xs:=l) (mW.1 I);unfold aO gJ;rw[ap I,ap o,List.findIdx_append,ap C]
 rw[jb j,jb fun h'=>?_];rcases eD.1 h' with h'|h';·exact j h'
 exact h (cx.1 h')
structure KB (D:DataW Unit)(l:List ByteArray):Prop where
 tidy:Tidy D
 size:Maps.size D=l.length
 has:∀s,Maps.has D (wW s)=decide (0≤aO l s)
 val:∀s,D.atKey (wW s) (.lit (.int .i64 0))=.lit (.int .i64 (max (aO l s) 0))
theorem KB.nil:KB (.map []) []:=by
 refine⟨tidy_empty,rfl,fun s=>?_,fun s=>?_⟩;·rw[jb (by simp)];rfl
 rw[jb (by simp)];rfl
theorem KB.put {D:DataW Unit}{l:List ByteArray}(h:KB D l){s:ByteArray}(C:aO l s<0):KB (D.put (wW s) (.lit (.int .i64 l.length))) (l++[s]):=by
 have o:s∉l:=fun hm=>by have:=cm.2 hm;omega
 refine⟨h.tidy.put (sT s) _,?_,fun t=>?_,fun t=>?_⟩;·rw[size_put h.tidy,h.has s,cI (by omega),h.size];simp
 ·by_cases e:t=s
  ·subst e;rw[has_put_same h.tidy.isMap (sT t),mC o];exact(bL (by omega)).symm
  rw[has_put_other fun j=>e (yB j),oz e,h.has t]
 by_cases e:t=s
 ·subst e
  rw[atKey_put_same h.tidy.isMap (sT t),mC o];congr 2;omega
 rw[atKey_put_other fun j=>e (yB j),oz e,h.val t]
def cK (w:World)(b:Nat)(l:List ByteArray):Prop:=∃D,w.ownsMap prog 9 (plainElem prog 3) b l.length D∧KB D l
section
variable {w w':World} {b:Nat} {l:List ByteArray}
theorem cK.new (w:World):cK (w.alloc (.map #[] 0)) w.heap.size []:=⟨_,World.ownsMap_made _ _ _ _,KB.nil⟩
theorem cK.lt (h:cK w b l):b<w.heap.size:=by obtain⟨D,h,_⟩:=h;exact h.lt
theorem cK.keep {S:Nat→Prop}(h:cK w b l)(k:aa S w w')(o:S b):cK w' b l:=by obtain⟨D,h,C⟩:=h;have j:=h.lt;obtain⟨es,clock,I,r⟩:=h;exact⟨D,⟨es,clock,(k.block b j o).trans I,r⟩,C⟩
theorem cK.look (h:cK w b l){s:ByteArray}(R:s.size≤maxLen):(Instr.lookup 119 (.map (some b)) (.string s) true).run prog w=.ok (.tuple #[.int .i64 (max (aO l s) 0),.bool (decide (0≤aO l s))]) w:=by obtain⟨D,h,C⟩:=h;obtain⟨v,ps,o,Y⟩:=h.look_ok Gm underlying119 (Gn w) (plainElem_int underlying3 (by decide)) (keyOf_string_mk underlying9 R);obtain⟨c,rfl,hc,_⟩:=plainElem_int_inv underlying3 Y;have j:=congrArg Prod.fst hc;have I:=C.val s;have J:=C.has s;unfold wW at I J;rw[I] at j;rw[J] at o;injection j with j;injection j with _ j;rw[←j] at o;exact o
theorem cK.get (h:cK w b l){s:ByteArray}(I:s.size≤maxLen):(Instr.lookup 119 (.map (some b)) (.string s) false).run prog w=.ok (.int .i64 (max (aO l s) 0)) w:=by obtain⟨D,h,J⟩:=h;obtain⟨c,j,o,_⟩:=h.lookup_int Gm underlying119 underlying3 (Gn w) (keyOf_string_mk underlying9 I);have C:=J.val s;unfold wW at C;rw[C] at o;injection o with o;injection o with _ o;rw[←o] at j;exact j
theorem cK.len (h:cK w b l)(ty:TypeId):(Builtin.len_ #[119] ty #[.map (some b)]).run prog w=.ok (.int .i64 l.length) w:=by obtain⟨D,h,j⟩:=h;rw[h.len underlying119,j.size]
theorem gN {ops:Array Oper}{rest:List Oper}{o:Oper}{a:Act}{Q:Exit→Act→World→Prop}(C:o.guard=none)(m x v:Operand)(j:o.op=Op.mapUpdate 119 m x v)
 (b:Nat) (l:List ByteArray) (hm:a.eval m=.map (some b)) (h:cK w b l) (hl:l.length<1000000) (s:ByteArray) (I:a.eval x=.string s) (J:a.eval v=.int .i64 l.length) (R:s.size≤maxLen) (Y:aO l s<0)
 (hK:∀w',cK w' b (l++[s])→w.grownBy w' (some b)→wpList prog ops Q rest (a.put o.dst undef) w'):wpList prog ops Q (o::rest) a w:=by
 obtain⟨D,hD,hd⟩:=h
 refine wpList_mapUpdate_own (H:=Unit) w C m x v 119 j 9 3 Gm underlying119 _ b l.length D hm hD (by unfold maxLen;omega) _ _ _ I J (keyOf_string_mk underlying9 R) _ []
  (plainElem_int underlying3 (by simp[Lit.wf,IntKind.min,IntKind.max,IntKind.signed,IntKind.bits];omega)) fun w' h1 h2=>hK w' ⟨_,by rw[iQ];exact h1,hd.put Y⟩ h2
end
end
structure jx (x:bz):Prop where
 kind:x.kind<256
 op:x.op<256
 dst:aV x.dst
 ref:aV x.ref
 Ni:aV x.Ni
 num:aV x.num
 Nj:aV x.Nj
def KD:cO bz:=fun S w cs x=>∃a f,cs=[.int .u8 x.kind,.int .u8 x.op,.int .i64 x.dst,.int .i64 x.ref,.int .i64 x.Ni,a,f,.int .i64 x.num,.int .i64 x.Nj]∧aK S w a x.args∧aK S w f x.Nh∧jx x
theorem sH:cO.Good KD:=by
 constructor
 ·rintro S w w' cs x k ⟨a,f,e,j,o,C⟩
  exact⟨a,f,e,ah.keep k j,ah.keep k o,C⟩
 rintro S T w cs x k ⟨a,f,e,j,o,C⟩;exact⟨a,f,e,ah.wide k j,ah.wide k o,C⟩
abbrev tZ:=rx 9 96 KD
theorem cT:bT.Good tZ:=cH sH
abbrev bW:=Sl 24 tZ
theorem bg:bT.Good bW:=oR cT
def qO:cO aw:=fun S w cs b=>∃v,cs=[.int .i64 b.params,.int .i64 b.vars,v]∧bW S w v b.Ng∧aV b.params∧aV b.vars
theorem gI:cO.Good qO:=by
 constructor
 ·rintro S w w' cs x k ⟨v,e,j,o⟩
  exact⟨v,e,bg.keep k j,o⟩
 rintro S T w cs x k ⟨v,e,j,o⟩;exact⟨v,e,bg.wide k j,o⟩
abbrev mL:=rx 3 40 qO
theorem bV:bT.Good mL:=cH gI
def rI:cO (Int×Int):=fun _ _ cs x=>cs=[.int .i64 x.1,.int .i64 x.2]∧aV x.1∧aV x.2
theorem jq:cO.Good rI:=⟨fun _ h=>h,fun _ h=>h⟩
abbrev qaC:=rx 2 16 rI
theorem bu:bT.Good qaC:=cH jq
def cQ (S:Nat→Prop)(w:World)(v:Value)(c:aE):Prop:=∃a f,v=.agg #[a,f,.int .i64 c.main]∧qaC S w a c.Nd∧mL S w f c.Nf∧aV c.main
theorem dc:bT.Good cQ:=by
 constructor
 ·rintro S w w' v c k ⟨a,f,e,j,o,C⟩
  exact⟨a,f,e,bu.keep k j,bV.keep k o,C⟩
 rintro S T w v c k ⟨a,f,e,j,o,C⟩;exact⟨a,f,e,bu.wide k j,bV.wide k o,C⟩
structure uB (x:cX):Prop where
 kind:x.kind<256
 op:x.op<256
 num:aV x.num
 Nj:aV x.Nj
 dst:x.dst.size≤140737488355328
 ref:x.ref.size≤140737488355328
 Ni:x.Ni.size≤140737488355328
 args:∀s∈x.args,s.size≤140737488355328
 Nh:∀s∈x.Nh,s.size≤140737488355328
def zH:cO cX:=fun S w cs x=>∃a f,cs=[.int .u8 x.kind,.int .u8 x.op,.string x.dst,.string x.ref,.string x.Ni,a,f,.int .i64 x.num,.int .i64 x.Nj]∧gB S w a x.args∧gB S w f x.Nh∧uB x
theorem nM:cO.Good zH:=by
 constructor
 ·rintro S w w' cs x k ⟨a,f,e,j,o,C⟩
  exact⟨a,f,e,ax.keep k j,ax.keep k o,C⟩
 rintro S T w cs x k ⟨a,f,e,j,o,C⟩;exact⟨a,f,e,ax.wide k j,ax.wide k o,C⟩
abbrev Im:=rx 9 120 zH
theorem it:bT.Good Im:=cH nM
def qh:cO eS:=fun S w cs b=>∃v,cs=[.string b.name,v,.int .i64 b.Nj]∧Im S w v b.code∧aV b.Nj∧b.name.size≤140737488355328
theorem lK:cO.Good qh:=by
 constructor
 ·rintro S w w' cs x k ⟨v,e,j,o⟩
  exact⟨v,e,it.keep k j,o⟩
 rintro S T w cs x k ⟨v,e,j,o⟩;exact⟨v,e,it.wide k j,o⟩
abbrev mJ:=rx 3 48 qh
theorem eH:bT.Good mJ:=cH lK
def uA:cO cD:=fun S w cs f=>∃p v,cs=[.string f.name,p,v,.int .i64 f.Nj]∧gB S w p f.params∧mJ S w v f.Ng∧aV f.Nj∧f.name.size≤140737488355328∧∀s∈f.params,s.size≤140737488355328
theorem nj:cO.Good uA:=by
 constructor
 ·rintro S w w' cs x k ⟨p,v,e,j,o,C⟩
  exact⟨p,v,e,ax.keep k j,eH.keep k o,C⟩
 rintro S T w cs x k ⟨p,v,e,j,o,C⟩;exact⟨p,v,e,ax.wide k j,eH.wide k o,C⟩
abbrev BC:=rx 4 72 uA
theorem iX:bT.Good BC:=cH nj
def EB:cO EL:=fun _ _ cs a=>cs=[.string a.name,.int .i64 a.size,.string a.level,.int .i64 a.Nj]∧aV a.size∧aV a.Nj∧a.name.size≤140737488355328∧a.level.size≤140737488355328
theorem pH:cO.Good EB:=⟨fun _ h=>h,fun _ h=>h⟩
abbrev Kx:=rx 4 48 EB
theorem lJ:bT.Good Kx:=cH pH
def BF (S:Nat→Prop)(w:World)(v:Value)(q:dN):Prop:=∃a f,v=.agg #[a,f]∧Kx S w a q.Nd∧BC S w f q.Nf
theorem sI:bT.Good BF:=by
 constructor
 ·rintro S w w' v c k ⟨a,f,e,j,o⟩
  exact⟨a,f,e,lJ.keep k j,iX.keep k o⟩
 rintro S T w v c k ⟨a,f,e,j,o⟩;exact⟨a,f,e,lJ.wide k j,iX.wide k o⟩
theorem aZ {α:Type}{n bw:Nat}{E:cO α}{S:Nat→Prop}{w:World}{A:Option Addr}{m c:Nat}{l:List α}(h:rx n bw E S w (.slice A m c) l){i:Nat}{x:α}(hi:l[i]? =some x):
 ∃b o cs,A=some ⟨b,o,none⟩∧S b∧cs.length=n∧(∀(j:Nat) c,cs[j]? =some c→w.cell? ⟨b,o+i*n+j,none⟩=some c)∧E S w cs x:=by
 obtain⟨a,cap,C,_,_,_,h⟩:=h;injection C with I J R;subst I;exact h i _ hi
theorem bn {α:Type}{bw:Nat}{E:bT α}{S:Nat→Prop}{w:World}{A:Option Addr}{m c:Nat}{l:List α}(h:Sl bw E S w (.slice A m c) l){i:Nat}{x:α}(hi:l[i]? =some x):
 ∃b o v,A=some ⟨b,o,none⟩∧S b∧w.cell? ⟨b,o+i,none⟩=some v∧E S w v x:=by
 obtain⟨a,cap,j,_,_,_,h⟩:=h;injection j with C I J;subst C;exact h i _ hi
theorem sh {w wn:World}{t:TypeId}{cs:Array Value}(h:aa All (w.alloc (.cells cs t)) wn)(i:Nat):wn.cell? ⟨w.heap.size,i,none⟩=cs[i]?:=((al.new w t cs).kept h trivial).cell i
def KG (e:Ending):Prop:=∃a n:Int,n≠0∧aV a∧aV n∧e=.panicked [{v:=.iface 116 (.agg #[.int .i64 a,.int .i64 n]),recovered:=false}]
def ql (C:Prop)(R:Ending→World→Prop)(w:World)(e:Ending)(w':World):Prop:=(C∧R e w')∨(¬C∧KG e∧aa All w w')
theorem dX (a n:Int)(w:World):Calls prog 48 #[.bool true,.int .i64 a,.int .i64 n] w fun e w'=>e=.returned (.tuple #[])∧w=w':=by
 go_enter func48,ntmps48;go_wp2
 go_end0
 exact⟨rfl,rfl⟩
theorem fP (a n:Int)(w:World):Calls prog 48 #[.bool false,.int .i64 a,.int .i64 n] w fun e w'=>e=.panicked [{v:=.iface 116 (.agg #[.int .i64 a,.int .i64 n]),recovered:=false}]∧w=w':=by go_enter func48,ntmps48;go_wp2;exact⟨rfl,rfl,rfl⟩
theorem nQ (r a:Int)(w:World):Calls prog 50 #[.int .i64 r,.bool true,.int .i64 a] w fun e w'=>e=.returned (.int .i64 r)∧w=w':=by go_enter func50,ntmps50;go_wp2_with (go_at_call 48;refine(dX _ _ _).mono ?_;rintro e w' ⟨rfl,rfl⟩);go_ret;exact⟨rfl,rfl⟩
theorem pK (r a:Int)(w:World)(j:aV a):Calls prog 50 #[.int .i64 r,.bool false,.int .i64 a] w fun e w'=>KG e∧w=w':=by go_enter func50,ntmps50;go_wp2_with (go_at_call 48;refine(fP _ _ _).mono ?_;rintro e w' ⟨rfl,rfl⟩);exact⟨rfl,⟨a,10,by decide,j,by unfold aV;omega,rfl⟩,rfl⟩
theorem lQ (b:Nat)(l:List ByteArray)(s:ByteArray)(a:Int)(w:World)(hm:cK w b l)(C:s.size≤140737488355328)(o:aV a):
 Calls prog 157 #[.map (some b),.string s,.int .i64 a] w fun e w'=>ql (0≤aO l s) (fun e w'=>e=.returned (.int .i64 (aO l s))∧w=w') w e w':=by
 have j:=hm.look (s:=s) (by unfold maxLen;omega);generalize aO l s=r at*;by_cases h:0≤r;·rw[Int.max_eq_left h,bL h] at j;have H:=oH h;clear h;go_enter func157,ntmps157;go_wp2_with (go_at_call 48;refine(dX _ _ _).mono ?_;rintro e w' ⟨rfl,rfl⟩);go_ret;exact .inl ⟨H.out,rfl,rfl⟩
 rw[cI h] at j;have H:=oH h;clear h;go_enter func157,ntmps157;go_wp2_with (go_at_call 48;refine(fP _ _ _).mono ?_;rintro e w' ⟨rfl,rfl⟩);exact⟨rfl,.inr ⟨by have:=H.out;omega,⟨a,10,by decide,o,by unfold aV;omega,rfl⟩,kR⟩⟩


def dS (m:BitVec 64)(k:Nat):List Nat:=(List.range k).filter fun j=>m.getLsbD j
def Dc (m:BitVec 64)(k:Nat):BitVec 64:=zt (fun j=>decide (k≤j)&&m.getLsbD j) 64
theorem nO (m:BitVec 64)(k j:Nat)(o:j<64):(Dc m k).getLsbD j=(decide (k≤j)&&m.getLsbD j):=by rw[Dc,zu _ _ _ o,bL o];rfl
theorem Mo (m:BitVec 64):Dc m 0=m:=by apply BitVec.eq_of_getLsbD_eq;intro j o;rw[nO _ _ _ o,bL (Nat.zero_le j)];rfl
theorem CJ {x:BitVec 64}{t:Nat}(h:LO x t)(j:Nat)(I:j<64):(x&&&(x-1#64)).getLsbD j=(x.getLsbD j&&decide (j≠t)):=by
 have J:=Cd h;have R:x-1#64= ~~~(-x):=by
  have e:=BitVec.neg_eq_not_add (-x);rw[BitVec.neg_neg] at e;have Y:∀y:BitVec 64,x=y+1#64→x-1#64=y:=by rintro y rfl;exact BitVec.add_sub_cancel y 1#64
  exact Y _ e
 have o:=congrArg (fun y=>y.getLsbD j) J;have h4:(pw t).getLsbD j=decide (j=t):=by(
 rw[pw,BitVec.getLsbD_shiftLeft];by_cases e:j=t;·subst e;simp[I]
 by_cases C:j<t;·simp[C,e]
 have:j-t≠0:=by omega
 simp[C,this,e])
 simp only[BitVec.getLsbD_and,h4] at o;rw[R,BitVec.getLsbD_and,BitVec.getLsbD_not];by_cases e:j=t
 ·subst e
  rw[bL rfl] at o;rw[gE] at o;rw[o.2];simp
 rw[cI e] at o;cases hx:x.getLsbD j with
 |false=>simp
 |true=>
  rw[hx] at o;have h5:(-x).getLsbD j=false:=by simpa using o
  rw[h5];simp[I,e]
theorem FO {m:BitVec 64}{k t:Nat}(h:LO (Dc m k) t):Dc m k&&&(Dc m k-1#64)=Dc m (t+1)∧k≤t∧t<64∧m.getLsbD t=true∧dS m (t+1)=dS m k++[t]:=by
 have ht:=h.1;have R:=h.2.1;rw[nO _ _ _ ht,gE,qal] at R;have o:∀j,k≤j→j<t→m.getLsbD j=false:=by intro j C I;have:=h.2.2 j I;rw[nO _ _ _ (by omega),bL C] at this;simpa using this
 refine⟨?_,R.1,ht,R.2,?_⟩;·(
 apply BitVec.eq_of_getLsbD_eq;intro j I;rw[CJ h j I,nO _ _ _ I,nO _ _ _ I];by_cases C:k≤j;·(
 by_cases Y:j<t;·rw[o j C Y];simp
 by_cases e:j=t
 ·have J:¬t+1≤j:=by omega
  rw[cI J,cI (fun h:j≠t=>h e)];simp
 have J:t+1≤j:=by omega
 simp[C,e,J])
 have J:¬t+1≤j:=by omega
 simp[C,J])
 unfold dS;have e:List.range (t+1)=List.range k++(List.range (t-k)).map (k+·)++[t]:=by rw[List.range_succ];congr 1;have:=List.range_add (n:=k) (m:=t-k);rw[←this];congr 1;omega
 rw[e,mE,mE];have e2:((List.range (t-k)).map (k+·)).filter (fun j=>m.getLsbD j)=[]:=by rw[List.filter_eq_nil_iff];intro a ha;obtain⟨i,hi,rfl⟩:=dr.1 ha;have:=fg.1 hi;rw[o _ (by omega) (by omega)];exact oG
 rw[e2,List.append_nil];simp[R.2]
theorem Jj {m:BitVec 64}{k:Nat}(h:Dc m k=0#64)(Y:k≤64):dS m k=dS m 64:=by
 have o:∀j,k≤j→j<64→m.getLsbD j=false:=by intro j C I;have:=congrArg (fun y=>y.getLsbD j) h;simp only[nO _ _ _ I,bL C,BitVec.getLsbD_zero] at this;simpa using this
 unfold dS;have e:List.range 64=List.range k++(List.range (64-k)).map (k+·):=by have:=List.range_add (n:=k) (m:=64-k);rw[←this];congr 1;omega
 rw[e,mE];have J:((List.range (64-k)).map (k+·)).filter (fun j=>m.getLsbD j)=[]:=by rw[List.filter_eq_nil_iff];intro a R;obtain⟨i,hi,rfl⟩:=dr.1 R;have:=fg.1 hi;rw[o _ (by omega) (by omega)];exact oG
 rw[J,List.append_nil]
theorem ko {m:BitVec 64}{k j:Nat}:j∈dS m k↔j<k∧m.getLsbD j=true:=by unfold dS;rw[List.mem_filter,fg]
theorem xP {m:BitVec 64}{pre:List Nat}{k:Nat}(h:pre++[k]<+:dS m 64):(k<64∧m.getLsbD k=true)∧∀j,j<k→m.getLsbD j=true→j∈pre:=by
 obtain⟨t,C⟩:=h;have I:k∈dS m 64:=by rw[←C];simp
 refine⟨ko.1 I,fun j R hm=>?_⟩;have o:j∈dS m 64:=ko.2 ⟨by have:=(ko.1 I).1;omega,hm⟩;rw[←C,jM,eD] at o;rcases o with h|h;·exact h
 exfalso;have J:(dS m 64).Pairwise (·<·):=List.Pairwise.filter _ List.pairwise_lt_range;rw[←C,jM] at J;have:=(List.pairwise_append.1 J).2.1;simp only[List.cons_append,mF] at h this;rcases fX.1 h with rfl|h;·omega
 have:=(List.pairwise_cons.1 this).1 j h;omega
section
open Go
section
variable {P:Program} {ops:Array Oper} {md:Region.Mode} {S:World→Prop} {T:List Tmp} {F:Tmp→Value→World→Prop} {L:Nat→Option (Value→Prop)} {lp n:Nat}
def sZ (ops:Array Oper):Bool:=ops.all fun o=>match o.op with|.defer _=>false|_=>true
theorem ta (h:sZ ops=true):∀(j:Nat) (o:Oper),ops[j]? =some o→∀c,o.op≠.defer c:=by intro j o I c e;obtain⟨C,rfl⟩:=mV.1 I;have:=(Array.all_eq_true.1 h) j C;simp only[e] at this;cases this
theorem gh {Q:Act→Prop}{Q':Exit→Act→World→Prop}(hm:lk md ops T)(I:∀(j:Nat) (o:Oper),ops[j]? =some o→∀c,o.op≠.defer c)
 (hQ:∀listed a w,listed.size=ops.size→Region.ready md ops listed=[]→S w→eU ops T F listed a w→Q a→Q' .normal a w):∀(fuel:Nat) (listed:Array Bool) (a:Act) (w:World),listed.size=ops.size→S w→eU ops T F listed a w→
 oZ P md ops S T F L Q fuel listed a→wpAnyIn (Fence.wide.inRound lp) n P md ops Q' fuel listed a w
 |0,listed,a,w,hz,hw,C,h=>⟨(h ⟨w,hw,C⟩).1,hQ _ _ _ hz (h ⟨w,hw,C⟩).1 hw C (h ⟨w,hw,C⟩).2⟩
 |fuel+1,listed,a,w,hz,hw,C,h=>by(
 refine⟨fun h0=>hQ _ _ _ hz h0 hw C ((h ⟨w,hw,C⟩).1 h0),fun i hi=>?_⟩;have J:(listed.setIfInBounds i true).size=ops.size:=by rw[Array.size_setIfInBounds];exact hz
 obtain⟨_,o,R,_⟩:=mem_ready.1 hi;obtain⟨V,hy,hn⟩:=(h ⟨w,hw,C⟩).2 i hi o R;have hp:=C.pre hm hi R;have Y:Oper.semAt (some lp) a.eval o=execOp a.eval o:=Oper.semAt_some lp a.eval o (I i o R);unfold wpOpIn;simp only[R];rcases hy with ⟨h1,_,v,rfl,h3⟩|⟨h1,_,h3⟩|⟨h1,rfl,h3⟩;·rw[ap h1];refine⟨fun _ _=>trivial,?_⟩;obtain⟨hr,hd⟩:=h3 w hw hp;show o.uponIn _ n P a _ _ ((Oper.semAt (some lp) a.eval o).run P w);rw[Y,hr];exact gh hm I hQ fuel _ _ w J hw (C.next R ⟨hw,fun _ _ _ h=>h,hd⟩) (hn v rfl)
 ·(
 rw[ap h1];refine⟨fun _ _=>trivial,?_⟩;have hr:=h3 w hw hp;show o.uponIn _ n P a _ _ ((Oper.semAt (some lp) a.eval o).run P w);rw[Y];generalize (execOp a.eval o).run P w=r at hr;cases r with
 |ok nx w'=>
  cases nx<;>simp only[kl] at hr<;>simp only[Oper.uponIn]
  case value u=>exact gh hm I hQ fuel _ _ w' J hr.2.1 (C.next R hr.2) (hn u hr.1)
  case enter f args=>(refine⟨(fun h=>by cases h),CallsIn.inRound lp (CallsIn.mono (callsIn_wide.2 hr) ?_)⟩;rintro e a1 ⟨u,rfl,hv,hg⟩;exact gh hm I hQ fuel _ _ a1 J hg.1 (C.next R hg) (hn u hv))
 |halt x w'=>simp only[kl] at hr)
 rw[ae (by rw[h1];exact oG)];exact⟨fun _ _=>trivial,gh hm I hQ fuel _ _ w J hw (C.next R ⟨hw,fun _ _ _ h=>h,fun d hd ht=>absurd ht (h3 d hd)⟩) (hn undef rfl)⟩)
theorem fJ {id:Nat}{Q:Exit→Act→World→Prop}{a:Act}{w:World}{l:List Oper}(S:World→Prop)(T:List Tmp)(F:Tmp→Value→World→Prop)(L:Nat→Option (Value→Prop))(hm:P.follows .mixedOrders=true)(I:Region.lexB .any l.toArray=true)(hT:ns .any l.toArray T=true)(hA:BH .any l.toArray=true)(hD:sZ l.toArray=true)
 (hS:S w.drew) (h:nG P l.toArray S T F L (fun C=>∀w',S w'→(∀t∈T,∀v,C.tmps[t]? =some v→F t v w')→Q .normal C w') l 0 a):(Code.region id l.toArray true).wpIn (Fence.wide.inRound lp) n P Q a w:=by
 simp only[Region.lexB,gE] at I;have j:=sU hT;refine wpIn_region_any hm (gh (S:=S) (T:=T) (F:=F) (L:=L) (Q:=fun C=>∀w',S w'→(∀t∈T,∀v,C.tmps[t]? =some v→F t v w')→Q .normal C w') j (ta hD) (fun listed C w' hz hr J hf h=>h w' J fun t Y v hv=>?_) _ _ _ _ (by simp) hS (fun k o d R=>by exfalso;simp only[Array.getD_eq_getD_getElem?,Array.getElem?_replicate] at R;split at R<;>simp at R) ?_)
 ·obtain⟨k,x,hx,hd⟩:=j.2.2 t Y
  exact hf k x t (vO hz hr (BI hA) _ k (cf _) (mV.1 hx).1) hx hd Y v hv
 have:=pd (P:=P) (S:=S) (F:=F) (L:=L) j I.1 l 0 (Array.replicate l.toArray.size false) a (by simp) (by simpa using I.2) h;simpa using this
theorem JA {o:Oper}{a:Act}{w:World}{K J:Act→World→Prop}{Q:Exit→Act→World→Prop}(I:∀c,o.op≠.defer c)(j:∀a w,K a w→J a w)(h:o.wp P a w K Q):o.wpIn (Fence.wide.inRound lp) n P a w J Q:=by
 refine⟨fun _ _=>trivial,?_⟩;show o.uponIn _ n P a _ _ ((Oper.semAt (some lp) a.eval o).run P w);rw[Oper.semAt_some lp a.eval o I];unfold Oper.wp at h;generalize (execOp a.eval o).run P w=r at h;cases r with
 |ok R w'=>
  cases R<;>simp only[Oper.upon] at h<;>simp only[Oper.uponIn]
  case value u=>exact j _ _ h
  case skip=>exact j _ _ h
  case defer d=>exact j _ _ h
  case enter f args=>(
 refine⟨(fun h=>by cases h),CallsIn.inRound lp (CallsIn.mono (callsIn_wide.2 h) ?_)⟩;intro e C he;cases e with
 |returned v=>exact j _ _ he
 |panicked Y=>exact he
 |outgrown=>exact he)
  case row rw args=>(refine⟨(fun h=>by cases h),fun c cs _=>?_⟩;obtain⟨v,C,r,s⟩:=h c cs;exact⟨v,C,j _ _ r,stepsIn_wide.2 s⟩)
 |halt x w'=>cases x<;>simp only[Oper.upon] at h<;>first|exact h|exact h.elim
theorem wu {Q:Exit→Act→World→Prop}(C:∀(j:Nat) (o:Oper),ops[j]? =some o→∀c,o.op≠.defer c)(I:¬LetsOut Q):∀(fuel:Nat) (listed:Array Bool) (a:Act) (w:World),
 wpAny P md ops Q fuel listed a w→wpAnyIn (Fence.wide.inRound lp) n P md ops Q fuel listed a w
 |0,_,_,_,h=>h
 |fuel+1,listed,a,w,h=>by(
 refine⟨h.1,fun i hi=>?_⟩;have h:=h.2 i hi;unfold wpOp at h;unfold wpOpIn;cases J:ops[i]? with
 |none=>rw[J] at h;exact wu C I fuel _ _ _ h
 |some o=>
  simp only[J] at h⊢;by_cases hw:Region.wanted o (yielded ops a.tmps)=true
  ·rw[ap hw] at h⊢;rcases h with h|h;·exact JA (C i o J) (fun a w h=>wu C I fuel _ _ _ h) h
   exact absurd h.2 I
  rw[ae hw] at h⊢;exact⟨fun _ _=>trivial,wu C I fuel _ _ _ h⟩)
theorem mv {id:Nat}{Q:Exit→Act→World→Prop}{a:Act}{w:World}{l:List Oper}(m:Nat)(hm:P.follows .mixedOrders=true)(hB:Region.lexTailB .any l.toArray m=true)(hD:sZ l.toArray=true)(Y:¬LetsOut Q)
 (h:wpStill P l.toArray {w with drawn:=w.drawn+1} (fun a'=>wpList P l.toArray Q (l.drop m) a' {w with drawn:=w.drawn+1}) (l.take m) a):(Code.region id l.toArray true).wpIn (Fence.wide.inRound lp) n P Q a w:=by
 simp only[Region.lexTailB,gE,qal] at hB;obtain⟨⟨⟨⟨C,hn⟩,hs⟩,hc⟩,I⟩:=hB;have a6:m<l.length:=by simpa using hn
 have o:(l.take m).length=m:=by simp;omega
 have J:(l.drop m).length=l.toArray.size-m:=by simp
 have R:HeadInv .any l.toArray m (Array.replicate l.toArray.size false):=
  ⟨by simp,fun j oj _ hl=>(by rw[getD_replicate_false] at hl;cases hl),fun t _ ht=>getD_in (by simpa using ht) (getD_replicate_false _ _)⟩
 have H:=wpAnyL_lex (md:=.any) (g:=l.toArray.size-m) C hs hc hn (l.take m) 0 _ a (fun j hj=>by
  have a1:j<m:=by rw[o] at hj;exact hj
  simp[a1]) (by simpa using o) R (by rw[o];exact I) h
 refine wpIn_region_any hm ?_;have:=wpAny_of_head (Q':=Q) (g:=l.toArray.size-m) (fun listed a' hL=>by have:=wpAny_of_seq (md:=.any) (Q':=Q) (l.drop m) m listed a' {w with drawn:=w.drawn+1} (fun j=>by simp[List.getElem?_drop]) (by rw[J];exact hL.1) hL.2;rwa [J] at this) _ _ _ H;rw[o,show m+(l.toArray.size-m)=l.toArray.size by omega] at this;exact wu (ta hD) Y _ _ _ _ this
end
end
section
open Go.RowKit Go.Shelf
attribute [local go_sem] lh qb xr ju nA nE nB nC ms rq nD wL pD
attribute [local go_sem] Oper.semAt_some
abbrev zD (m:BitVec 64):= {k:Nat//k<64∧m.getLsbD k=true}
def eq (A B:World):Prop:=gz A→gz B
theorem gz.below {w W:World}(h:gz w)(o:Below w.heap.size w W):gz W:=by
 refine⟨fun i hi=>?_,fun i hi=>?_⟩
 ·have j:=h.1 i hi
  exact(o.cell (p:=⟨4,i,none⟩) (jy w _ j)).trans j
 have j:=h.2 i hi;exact(o.cell (p:=⟨3,i,none⟩) (jy w _ j)).trans j
theorem Gb {W:World}{l:Nat}{o J:Obj}(R:W.heap[l]? =some o)(Y:o.isCells=false):eq W (W.putObj l J):=by
 intro h;have j:∀b i v,W.cell? ⟨b,i,none⟩=some v→b≠l:=by rintro b i v I rfl;unfold World.cell? at I;simp only[R] at I;cases o<;>first|(simp[Obj.isCells] at Y;done)|(simp at I)
 refine⟨fun i hi=>?_,fun i hi=>?_⟩
 ·have C:=h.1 i hi
  rw[World.cell?_of_block (World.putObj_heap_other (fun e=>j _ _ _ C e))];exact C
 have C:=h.2 i hi;rw[World.cell?_of_block (World.putObj_heap_other (fun e=>j _ _ _ C e))];exact C
theorem wk (m:BitVec 64)(w:World):Calls prog 194 #[U m] w fun e w'=>e=.returned (.func (.func 223) #[] #[.pointer (some ⟨w.heap.size,0,none⟩)])∧w'=w.alloc (.cells #[U m] 163):=by have j:∀(fn:Fn) (first cap:Array Value) (w:World),(Instr.makeFunc fn first cap).run prog w=.ok (.func fn first cap) w:=fun _ _ _ _=>rfl;go_enter func194,ntmps194;go_wp2;go_ret;exact⟨rfl,rfl⟩
theorem zM (x:BitVec 64)(h:x≠0#64):(x&&&(x-1#64)).toNat<x.toNat:=by
 have j:x.toNat≠0:=fun e=>h (BitVec.eq_of_toNat_eq (by simpa using e));have o:(x&&&(x-1#64)).toNat≤(x-1#64).toNat:=by rw[BitVec.toNat_and];exact Nat.and_le_right
 have C:(x-1#64).toNat=x.toNat-1:=by rw[BitVec.toNat_sub];have:=x.isLt;simp;omega
 omega
theorem EY (m:BitVec 64)(k:Nat):(dS m k).length≤k:=by unfold dS;exact fR (List.length_filter_le _ _) (by simp)
theorem EZ {m:BitVec 64}{t:Nat}(h:t<64):dS m (t+1)<+:dS m 64:=by
 have e:List.range 64=List.range (t+1)++(List.range (64-(t+1))).map (t+1+·):=by rw[←List.range_add];congr 1;omega
 unfold dS;rw[e,mE];exact List.prefix_append _ _
theorem qm (n:Nat)(hn:1≤n)(m:BitVec 64)(Bn:Nat)(w:World)(hl:gz w)(hc:al w Bn 163 #[U m]):
 SeqStopsK Fence.wide n prog 223 #[.pointer (some ⟨Bn,0,none⟩)] (fun x:zD m=>#[Value.int .i64 (x.1:Nat)]) eq (fun xs=>xs.map Subtype.val=dS m 64) (fun pre=>pre.map Subtype.val<+:dS m 64) 64 w:=fun l J Jx W hW _ _ hY h0=>by
 have b1:W.cell? ⟨Bn,0,none⟩=some (U m):=(hW.cell (p:=⟨Bn,0,none⟩) hc.lt).trans (hc.cell 0);have a1:=hl.below hW;have HL:=J2 a1 hY;clear a1 hY hW hl hc;refine callsIn_of_wp func223 rfl trivial ?_ rfl;simp only[ntmps223,List.size_toArray,kI,List.length_nil,Nat.reduceAdd,Nat.reduceSub,Array.replicate_succ,Array.replicate_zero,List.push_toArray,List.append_toArray,mF,List.cons_append];gi_wp2
 gi_loopw [3] (fun r wr=>∃(k:Nat) (pre:List (zD m)),k≤64∧r=U (Dc m k)∧pre.map Subtype.val=dS m k∧J pre wr∧gz wr) (fun r _=>(intOf r).toNat)
 ·exact⟨0,[],by omega,by rw[Mo],rfl,h0,HL.1⟩
 obtain⟨k,pre,hk,rfl,j,hJ,Y⟩:=hrel;by_cases hz:Dc m k=0#64
 ·have b2:(Dc m k !=0#64)=false:=by simp[hz]
  have HP:=oH (show pre.map Subtype.val=dS m 64 by rw[j,Jj hz hk]);clear hz j;gi_wp2
  go_end0
  exact⟨⟨_,rfl⟩,.inl ⟨pre,HP.out,hJ⟩⟩
 obtain⟨t,ht⟩:=Lf hz;obtain⟨a6,b6,o,I,a7⟩:=FO ht;have hlen:pre.length<64:=by have:=EY m k;rw[←j,ce] at this;omega
 obtain⟨fn,tmps,assign,body,hy,hR⟩:=HL.2 pre ⟨t,o,I⟩ wr hJ hlen;dsimp only at hy;have a8:=LJ (Dc m k) t wr Y ht;have b2:(Dc m k !=0#64)=true:=by simpa using hz
 have R:=zM _ hz;have C:(pre++[(⟨t,o,I⟩:zD m)]).map Subtype.val=dS m (t+1):=by rw[a7,ic,j];rfl
 have HT:=J5 a8 a6 R C Y;clear a8 a6 R C Y hz ht a7 j;gi_wp2_with (refine⟨trivial,?_⟩;gi_at_call 224;refine(callsIn_wide.2 HT.1).mono ?_;rintro e w' ⟨rfl,rfl⟩);gi_wp2;refine hR.mono ?_;rintro e W3 (⟨rfl,b3,b4⟩|⟨rfl,b0⟩)
 ·have b5:=b4 HT.2.2.2.2;gi_wp2
  go_roundw
  case rel=>exact⟨t+1,pre++[⟨t,o,I⟩],by omega,by rw[HT.2.1],HT.2.2.2.1,b3,b5⟩
  case measure=>exact HT.2.2.1
 gi_wp2;refine bodyPost_ret (results_none rfl _ _ _) rfl ?_;exact⟨⟨_,rfl⟩,.inr ⟨pre++[(⟨t,o,I⟩:zD m)],by rw[HT.2.2.2.1];exact EZ o,b0⟩⟩
end
section
open Go.RowKit Go.Shelf
attribute [local go_sem] lh qb xr ju nA nE nB nC ms rq nD wL pD
attribute [local go_sem] Oper.semAt_some
def MI (D:Nat):Deferred:= {target:=.collected D,args:=#[]}
theorem mj {P:Program}{F:Fence}{n:Nat}{fn:Func}{tmps:Array Value}{R:Ending→World→Prop}:∀(Ds:List Nat) (w:World),Ds.Nodup→(∀D∈Ds,w.heap[D]? =some (.deferred (some [])))→
 (∀w',aa (fun b=>b∉Ds) w w'→LeavesInM F n P fn tmps R [] .returning w')→LeavesInM F n P fn tmps R (Ds.map MI) .returning w
 | [],w,_,_,h=>h w kR
 |D::Ds,w,J,C,h=>by(
 have j:=List.nodup_cons.1 J;refine⟨by simp,.inl ⟨D,_,rfl,run_takeDeferred (C D (List.mem_cons_self ..)),mj Ds _ j.2 (fun E I=>?_) fun w' Y=>h w' ?_⟩⟩
 ·have o:E≠D:=fun e=>j.1 (e▸I)
  rw[World.putObj_heap_other o];exact C E (List.mem_cons_of_mem _ I)
 have k1:aa (fun b=>b∉D::Ds) w (w.putObj D (.deferred none)):=(aa.refl _ w).grown (grownBy_putObj' w D _) fun k e=>by cases e;exact .inl fun h=>h (List.mem_cons_self ..)
 exact k1.trans (Y.mono fun b hb h=>hb (List.mem_cons_of_mem _ h)))
theorem KeepsOthers.of_kept {W j:World}(h:aa All W j):KeepsOthers W j:=
 ⟨h.size,fun b _ o _=>(h.block b (mV.1 o).1 trivial).trans o⟩
theorem eq.of_kept {W j:World}(h:aa All W j):eq W j:=fun hl=>hl.keep h
theorem aa.put {S:Nat→Prop}{w W:World}(h:aa S w W){D:Nat}(j:¬S D∨w.heap.size≤D)(o:Obj):aa S w (W.putObj D o):=
 h.grown (grownBy_putObj' W D o) fun k e=>by cases e;exact j
theorem gL {β:Type}{B:Nat}{S:Nat→Prop}{wl:World}(C:wl.heap.size≤B):OwnFrom B (fun(_:β) W=>aa S wl W):=by intro s W I row h j hr;exact h.grown j fun k o=>.inr (by have:=(hr k o).1;omega)
theorem iz {β:Type}{B:Nat}{g:Nat}{t:TypeId}{cs:β→Array Value}:OwnFrom B (fun(s:β) W=>al W g t (cs s)):=by intro s W J row h C hr;refine h.grown C fun e=>?_;obtain⟨_,o,j,I⟩:=hr g e.symm;unfold al at h;rw[h] at j;cases j;cases I
theorem mi {A B C:World}(h:eq A B)(k:eq B C):eq A C:=fun hl=>k (h hl)
theorem mh (B:Nat):∀(W:World) (l:Nat) (o j:Obj),B≤l→W.heap[l]? =some o→o.isCells=false→o.isWalk=false→eq W (W.putObj l j):=fun _ _ _ _ _ C I _=>Gb C I
theorem lx {S:Nat→Prop}{w:World}{A:Option Addr}{n c:Nat}{l:List (BitVec 64)}(h:nZ S w (.slice A n c) l){i:Nat}(hi:i<l.length):∃b o,A=some ⟨b,o,none⟩∧S b∧w.cell? ⟨b,o+i,none⟩=some (U (aJ l i)):=by obtain⟨a,cap,j,_,_,_,h⟩:=h;injection j with C R Y;subst C;obtain⟨b,o,c',e,I,J,rfl⟩:=h i _ (Hw hi);exact⟨b,o,e,I,J⟩
section
variable {P:Program} {w:World}
theorem pm (x:BitVec 64):(U x).cells= #[U x]:=rfl
theorem lU (t:TypeId)(x:BitVec 64):(Instr.box t (U x)).run P w=.ok (.pointer (some ⟨w.heap.size,0,none⟩)) (w.alloc (.cells #[U x] t)):=rfl
theorem jt (a:Addr)(x:BitVec 64)(m:Mode):(store a (U x) m).run P w=stored P w a (U x) m:=run_store P w a _ m rfl
end
theorem mU (x:BitVec 64)(cs:Array Value):(U x=.agg cs)=False:=eq_false (fun h=>by cases h)
attribute [local go_sem] pm lU jt mU List.getElem?_toArray List.getElem?_cons_zero
def Ip (up:List (BitVec 64))(set:BitVec 64)(pre:List (zD set)):Prop:=∀x∈pre,jB up set x.1=false
def KA (up:List (BitVec 64))(set:BitVec 64)(c:Code)(pre:List (zD set)):Prop:=c=.ret∧∃j x,pre=j++[x]∧(∀y∈j,jB up set y.1=false)∧jB up set x.1=true
theorem Dm (S:Nat→Prop)(v:Value)(up:List (BitVec 64))(set:BitVec 64)(w:World)(hv:nZ S w v up)(hl:gz w)(b5:∀k,k<64→set.getLsbD k=true→k<up.length):
 Calls prog 141 #[v,U set] w fun e w'=>e=.returned (.int .i64 (qan up set))∧aa All w w':=by
 have b6:=hv;obtain⟨A,cap,rfl,h1,h2,_,_⟩:=hv;unfold maxLen at h2;refine(callsIn_wide (n:=8)).1 ?_;refine callsIn_of_wp_marks func141 rfl trivial ?_ rfl;simp only[ntmps141,List.size_toArray,kI,List.length_nil,Nat.reduceAdd,Nat.reduceSub,Array.replicate_succ,Array.replicate_zero,List.push_toArray,List.append_toArray,mF,List.cons_append];rw[wpIn_wide];go_wp2_with fail;refine(wk _ _).mono ?_;rintro e w' ⟨rfl,rfl⟩;go_wp2_with fail;obtain⟨wl,I⟩:=eQ ((((w.alloc (.cells #[.slice A up.length cap] 23)).alloc (.cells #[U set] 163)).alloc (.cells #[.int .i64 0] 3)).alloc (.cells #[U set] 163));have a8:=aA3 I;have b0:=aB2 I aE1;have a1:=aB1 I aE2;have b1:=aB0 I aE3;have Y:=aC4 I;have c4:w.heap.size+4≤wl.heap.size:=by rw[I];simp
 rw[←I];clear I;have b7:=hl.keep Y
 refine wpIn_wide.1 (wpIn_rangeFunc_ownF (F:=Fence.wide) (n:=8) rfl (by omega) (gf:=223) (lb:=#[.pointer (some ⟨w.heap.size+1+1+1,0,none⟩)]) rfl trivial (enters_of func223 (by kernel_rfl) rfl)
  (qm 7 (by omega) set _ wl b7 b1) mi (mh _) (Below.refl _ _) (fun _=>rfl)
  (fun pre W=>Ip up set pre∧aa All wl W)
  (fun c pre W=>(KA up set c pre∧aa (fun b=>b≠w.heap.size+1+1) wl W)∧al W (w.heap.size+1+1) 3 #[.int .i64 ((pre.getLast?.map fun x=>x.1).getD 0:Nat)])
  (OwnFrom.and (ownFrom_pure _ _) (gL (cf _)))
  (fun c=>OwnFrom.and (OwnFrom.and (ownFrom_pure _ _) (gL (cf _))) iz)
  ⟨fun x hx=>by simp at hx,kR⟩
  (fun x=> {tmps:=#[.slice A up.length cap,U set,.pointer (some ⟨w.heap.size,0,none⟩),.pointer (some ⟨w.heap.size+1,0,none⟩),.pointer (some ⟨w.heap.size+1+1,0,none⟩),.int .i64 (x.1:Nat),U set,.func (.func 223) #[] #[.pointer (some ⟨w.heap.size+1+1+1,0,none⟩)],.int .i64 (x.1:Nat),undef,undef,undef,undef,undef,undef,undef,undef],defers:=[]}) ?assign ?body ?done ?stop)
 case assign=>intro l x W K hK;gi_wp2;exact hK
 case body=>(
 rintro l pre x W ⟨J,hk⟩ _;have c0:=b5 x.1 x.2.1 x.2.2;have hf:∀wn,aa All W wn→wn.cell? ⟨w.heap.size,0,none⟩=some (.slice A up.length cap)∧wn.cell? ⟨w.heap.size+1,0,none⟩=some (U set)∧∃b o,A=some ⟨b,o,none⟩∧wn.cell? ⟨b,o+x.1,none⟩=some (U (aJ up x.1)):=fun wn R=>by have a6:=hk.trans R;obtain⟨b,o,e,_,hc⟩:=lx (dU.keep (Y.trans a6).all b6) c0;exact⟨(a8.kept a6 trivial).cell 0,(b0.kept a6 trivial).cell 0,b,o,e,hc⟩
 obtain⟨_,_,ab,ao,rfl,_⟩:=hf W kR;have b4:∀wn,aa All W wn→wn.cell? ⟨w.heap.size,0,none⟩=some (.slice (some ⟨ab,ao,none⟩) up.length cap)∧wn.cell? ⟨w.heap.size+1,0,none⟩=some (U set)∧wn.cell? ⟨ab,ao+x.1,none⟩=some (U (aJ up x.1)):=fun wn R=>by obtain⟨g1,g2,b,o,e,hc⟩:=hf wn R;cases e;exact⟨g1,g2,hc⟩
 have C:=a1.kept hk trivial;have b8:jB up set x.1=(set&&& ~~~(aJ up x.1)==0#64):=by unfold jB;rw[x.2.2];rfl
 have HF:=J5 b4 hk J C b8;clear hf b4 hk J C b8 a8 b0 a1 b1 b7 b6 hl b5;gi_wp2;refine fJ (aa All W) [] (fun _ _ _=>True) (fun _=>none) (by kernel_rfl) (by kernel_rfl) (by kernel_rfl) (by kernel_rfl) (by kernel_rfl) kR.drew ?_;iterate 7 (refine OR (fun wn hk hp=>by(obtain⟨e1,e2,e3⟩:=HF.1 wn hk);go_simp;with_reducible rfl) ?_)
 refine dQ fun wn R _=>?_;have b3:=HF.2.1.trans R;have b2:=HF.2.2.2.1.kept R trivial;have c5:=b2.cl 0;have c6:=b2.free 0;have HN:=J3 R b3 b2;clear R b3 b2;cases hb:(set&&& ~~~(aJ up x.1)==0#64) with
 |true=>
  have HB:=oH hb;clear hb;gi_wp2;refine⟨(KeepsOthers.of_kept HN.1).trans (KeepsOthers.setCell _ _ _),⟨⟨rfl,pre,x,rfl,HF.2.2.1,by rw[HF.2.2.2.2];exact HB.out⟩,?_⟩,?_⟩;·exact HN.2.1.all.setCell (p:=⟨w.heap.size+1+1,0,none⟩) (.inl (by simp)) _
  have:=HN.2.2.set 0 (.int .i64 (x.1:Nat));simpa using this
 |false=>
  have HB:=oH hb;clear hb;gi_wp2;refine⟨KeepsOthers.of_kept HN.1,eq.of_kept HN.1,fun y hy=>?_,HN.2.1⟩;rcases eD.1 hy with hy|hy;·exact HF.2.2.1 y hy
  rw[cx.1 hy,HF.2.2.2.2];exact HB.out)
 case done=>(
 rintro D xs W hD hS ⟨J,hk⟩ hK;have C:=a1.kept hk trivial;have c7:=C.cl 0;have b4:=C.free 0;have hv:qan up set= -1:=by(
 refine jW fun j hj=>?_;cases hb:set.getLsbD j with
 |false=>unfold jB;rw[hb];rfl
 |true=>
  have hm:j∈xs.map Subtype.val:=by rw[hS];exact ko.2 ⟨hj,hb⟩
  obtain⟨x,hx,rfl⟩:=dr.1 hm;exact J x hx)
 have HV:=J4 hv C hk hK;clear hv J hS hk C hK a8 b0 a1 b1;go_wp2;have b9:=(KeepsOthers.setCell W ⟨w.heap.size+1+1,0,none⟩ (.int .i64 (-1))).same D _ HV.2.2.2 rfl;refine⟨by simp,.inl ⟨_,_,rfl,run_takeDeferred b9,?_⟩⟩;have a7:=cell_kept ((HV.2.1.set 0 (.int .i64 (-1))).cell 0) (grownBy_putObj' _ D (.deferred none)) (fun r e=>by cases e;exact⟨_,b9,rfl⟩);refine⟨.int .i64 (-1),?_,by rw[HV.1],((Y.trans HV.2.2.1).setCell (p:=⟨w.heap.size+1+1,0,none⟩) (.inr (by simp;omega)) _).put (.inr (by omega)) _⟩;simp at a7;simp[results,Tryz.f141,go_sem,a7])
 rintro D c pre W hD hS ⟨⟨⟨rfl,c1,x,rfl,J,hx⟩,hk⟩,hb⟩ hK;rw[wpIn_wide];have hv:qan up set=(x.1:Nat):=by(
 rw[ic] at hS;obtain⟨h1,h2⟩:=xP hS;refine lI x.2.1 hx fun j hj=>?_;cases hb:set.getLsbD j with
 |false=>unfold jB;rw[hb];rfl
 |true=>obtain⟨y,hy,rfl⟩:=dr.1 (h2 j hj hb);exact J y hy)
 have HV:=J4 hv hb hk hK;clear hv J hS hk hb hK a8 b0 a1 b1;go_wp2;refine⟨by simp,.inl ⟨_,_,rfl,run_takeDeferred HV.2.2.2,?_⟩⟩;have a7:=cell_kept (HV.2.1.cell 0) (grownBy_putObj' _ D (.deferred none)) (fun r e=>by cases e;exact⟨_,HV.2.2.2,rfl⟩);refine⟨.int .i64 (x.1:Nat),?_,by rw[HV.1],?_⟩
 ·simp at a7
  simp[results,Tryz.f141,go_sem,a7]
 refine aa.put ⟨HV.2.2.1.os.trans Y.os,HV.2.2.1.output.trans Y.output,fR Y.size HV.2.2.1.size,fun b hb _=>?_⟩ (.inr (by omega)) _;rw[HV.2.2.1.block b (by omega) (by omega)];exact Y.block b hb trivial
end
end Go.Proofs.YtgdlhckhpolnnaaGreatDoor
