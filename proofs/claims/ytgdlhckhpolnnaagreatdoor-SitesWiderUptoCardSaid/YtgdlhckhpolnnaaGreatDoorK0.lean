/- Part 1 of the proof (its last part says what is proved). No condition. -/
import Derived.WalkKit
import Derived.Lib.Hide
import Derived.Deep.Quiet
import Derived.Test.YtgdlhckhpolnnaaGreatDoorRows
namespace Go.Proofs.YtgdlhckhpolnnaaGreatDoor
set_option maxRecDepth 100000
set_option maxHeartbeats 8000000
open Go.RowKit Go.Proofs.Tryz
theorem oH {p:Prop}(h:p):Hid p:=h
theorem eQ {α:Type}(a:α):∃x,x=a:=⟨a,rfl⟩
theorem eR {α:Type}(a:α):∃x,a=x:=⟨a,rfl⟩
theorem eG {α:Type}{l:List α}{i:Nat}(h:i<l.length):∃x,l[i]? =some x:=⟨_,List.getElem?_eq_getElem h⟩
theorem nK (n:Nat)(m:Int)(h:(n:Int)≠m):((n:Int)==m)=false:=beq_eq_false_iff_ne.2 h
theorem yK (n:Nat)(m:Int)(h:(n:Int)=m):((n:Int)==m)=true:=beq_iff_eq.2 h
theorem mK (n:Nat)(m:Int)(h:(n:Int)≠m):((n:Int) !=m)=true:=by simpa using h
theorem wK (n:Nat)(m:Int)(h:(n:Int)=m):((n:Int) !=m)=false:=by simpa using h
theorem gc {α:Type}:(∀(l:List α) (i:Nat),l.toArray[i]? =l[i]?)∧(∀(a:α) (l:List α),(a::l)[0]? =some a)∧∀(a:α) (l:List α) (i:Nat),(a::l)[i+1]? =l[i]?:=⟨fun _ _=>by simp,fun _ _=>rfl,fun _ _ _=>by simp⟩
theorem ga {α:Type}:(∀(l:List α) (i:Nat) (a:α),l.toArray.setIfInBounds i a=(l.set i a).toArray)∧(∀(a b:α) (l:List α),(a::l).set 0 b=b::l)∧∀(a b:α) (l:List α) (i:Nat),(a::l).set (i+1) b=a::l.set i b:=⟨fun _ _ _=>by simp,fun _ _ _=>rfl,fun _ _ _ _=>rfl⟩
theorem tK {α:Type}:(∀(a:α) (l:List α) (i:Nat),(a::l).take (i+1)=a::l.take i)∧∀(l:List α),l.take 0=[]:=⟨fun _ _ _=>rfl,fun _=>by simp⟩
theorem dK {α:Type}:(∀(a:α) (l:List α) (i:Nat),(a::l).drop (i+1)=l.drop i)∧(∀(i:Nat),([]:List α).drop i=[])∧∀(l:List α),l.drop 0=l:=⟨fun _ _ _=>rfl,fun _=>by simp,fun _=>rfl⟩
theorem PS:(∀(a:Act) (t:Tmp) (v:Value),a.put (some t) v= {a with tmps:=a.tmps.setIfInBounds t v})∧(∀(a:Act) (v:Value),a.put none v=a)∧(∀(l:List Value) (i:Nat) (a:Value),l.toArray.setIfInBounds i a=(l.set i a).toArray)∧(∀(a b:Value) (l:List Value),(a::l).set 0 b=b::l)∧∀(a b:Value) (l:List Value) (i:Nat),(a::l).set (i+1) b=a::l.set i b:=⟨fun _ _ _=>rfl,fun _ _=>rfl,ga⟩
theorem bE {α:Type}[BEq α][LawfulBEq α]{a b:α}:(a==b)=false↔a≠b:=beq_eq_false_iff_ne
theorem lG {α:Type}{l:List α}{i:Nat}(h:i<l.length):l[i]? =some l[i]:=List.getElem?_eq_getElem h
theorem lS {α:Type}{l:List α}{i:Nat}{a:α}:l[i]? =some a↔∃h:i<l.length,l[i]=a:=List.getElem?_eq_some_iff
theorem mG {α:Type}{l:List α}{i:Nat}{a:α}(h:l[i]? =some a):a∈l:=List.mem_of_getElem? h
theorem J2 {p q:Prop}(j:p)(o:q):Hid (p∧q):=⟨j,o⟩
theorem J3 {p q r:Prop}(j:p)(o:q)(hr:r):Hid (p∧q∧r):=⟨j,o,hr⟩
theorem J4 {p q r s:Prop}(j:p)(o:q)(hr:r)(C:s):Hid (p∧q∧r∧s):=⟨j,o,hr,C⟩
theorem J5 {p q r s t:Prop}(j:p)(o:q)(hr:r)(C:s)(I:t):Hid (p∧q∧r∧s∧t):=⟨j,o,hr,C,I⟩
theorem J6 {p q r s t u:Prop}(j:p)(o:q)(hr:r)(C:s)(I:t)(hu:u):Hid (p∧q∧r∧s∧t∧u):=⟨j,o,hr,C,I,hu⟩
theorem J7 {p q r s t u v:Prop}(j:p)(o:q)(hr:r)(C:s)(I:t)(hu:u)(J:v):Hid (p∧q∧r∧s∧t∧u∧v):=⟨j,o,hr,C,I,hu,J⟩
theorem J8 {p q r s t u v x:Prop}(j:p)(o:q)(hr:r)(C:s)(I:t)(hu:u)(J:v)(R:x):Hid (p∧q∧r∧s∧t∧u∧v∧x):=⟨j,o,hr,C,I,hu,J,R⟩
theorem J9 {p q r s t u v x y:Prop}(j:p)(o:q)(hr:r)(C:s)(I:t)(hu:u)(J:v)(R:x)(hy:y):Hid (p∧q∧r∧s∧t∧u∧v∧x∧y):=⟨j,o,hr,C,I,hu,J,R,hy⟩
theorem J10 {p q r s t u v x y z:Prop}(j:p)(o:q)(hr:r)(C:s)(I:t)(hu:u)(J:v)(R:x)(hy:y)(Y:z):Hid (p∧q∧r∧s∧t∧u∧v∧x∧y∧z):=⟨j,o,hr,C,I,hu,J,R,hy,Y⟩
theorem J12 {p q r s t u v x y z a b:Prop}(j:p)(o:q)(hr:r)(C:s)(I:t)(hu:u)(J:v)(R:x)(hy:y)(Y:z)(ha:a)(hb:b):Hid (p∧q∧r∧s∧t∧u∧v∧x∧y∧z∧a∧b):=⟨j,o,hr,C,I,hu,J,R,hy,Y,ha,hb⟩
theorem J13 {p q r s t u v x y z a b c:Prop}(j:p)(o:q)(hr:r)(C:s)(I:t)(hu:u)(J:v)(R:x)(hy:y)(Y:z)(ha:a)(hb:b)(hc:c):Hid (p∧q∧r∧s∧t∧u∧v∧x∧y∧z∧a∧b∧c):=⟨j,o,hr,C,I,hu,J,R,hy,Y,ha,hb,hc⟩
theorem cx:∀ {α:Type _} {a b:α},a∈[b]↔a=b:=@List.mem_singleton
theorem cY:∀ {α:Type _} {a:α} {l:List α},a∈l↔∃(i:Nat),l[i]? =some a:=@List.mem_iff_getElem?
theorem ce:∀ {α:Type _} {β:Type _} {xs:List α} (f:α→β),List.length (List.map f xs)=List.length xs:=@List.length_map
theorem cL:∀ {α:Type _} {β:Type _} {f:α→β} {l:List α} {i:Nat},(List.map f l)[i]? =Option.map f l[i]?:=@List.getElem?_map
theorem cU:∀ {α:Type _} {l:List α} {i:Nat},List.take (i+1) l=List.take i l++Option.toList l[i]?:=@List.take_add_one
theorem cf:∀(n:Nat),n≤n:=@Nat.le_refl
theorem dP:∀(n:Nat),Int.toNat (n:Int)=n:=@Int.toNat_natCast
theorem iG:∀ {α:Type _} {l:List α} {i:Nat} {a:α},List.getD l i a=Option.getD l[i]? a:=@List.getD_eq_getElem?_getD
theorem cN:∀(n:Nat),0+n=n:=@Nat.zero_add
theorem dZ:∀ {α:Type _} {l:List α},List.take (List.length l) l=l:=@List.take_length
theorem eL:∀ {α:Type _} {l:List α} {n:Nat} (h:n<List.length l),l[n]∈l:=@List.getElem_mem
theorem eD:∀ {α:Type _} {a:α} {s t:List α},a∈s++t↔a∈s∨a∈t:=@List.mem_append
theorem dj:∀(n:Nat),n+0=n:=@Nat.add_zero
theorem dr:∀ {α:Type _} {β:Type _} {b:β} {f:α→β} {l:List α},b∈List.map f l↔∃(a:α),a∈l∧f a=b:=@List.mem_map
theorem fN:∀ {α:Type _} {i:Nat} {l:List α},List.length (List.take i l)=min i (List.length l):=@List.length_take
theorem jy:∀(w:World) (a:Addr) {u:Value},World.cell? w a=some u→Addr.block a<Array.size (World.heap w):=@World.block_lt_of_cell?
theorem kH:∀ {α:Type _} {l m:List α} {i:Nat},List.length l≤i→(l++m)[i]? =m[i-List.length l]?:=@List.getElem?_append_right
theorem fg:∀ {m n:Nat},m∈List.range n↔m<n:=@List.mem_range
theorem jK:∀ {α:Type _} {i:Nat} {xs:Array α},Array.size xs≤i→xs[i]? =none:=@Array.getElem?_eq_none
theorem jz:∀ {α:Type _} {l:List α} {i:Nat},List.length l≤i→l[i]? =none:=@List.getElem?_eq_none
theorem gE:∀(a b:Bool),((a&&b)=true)=(a=true∧b=true):=@Bool.and_eq_true
theorem jA:∀ {α:Type _} {γ:Type _} {f:Nat→α→γ} {l:List α} {i:Nat},(List.mapIdx f l)[i]? =Option.map (f i) l[i]?:=@List.getElem?_mapIdx
theorem eE:∀ {n m:Nat},n=m→n≤m:=@Nat.le_of_eq
theorem iQ:∀ {α:Type _} {xs bs:List α},List.length (xs++bs)=List.length xs+List.length bs:=@List.length_append
theorem ma:∀ {α:Type _} {l m:List α} {i:Nat},i<List.length l→(l++m)[i]? =l[i]?:=@List.getElem?_append_left
theorem ic:∀ {α:Type _} {β:Type _} {f:α→β} {l m:List α},List.map f (l++m)=List.map f l++List.map f m:=@List.map_append
theorem fX:∀ {α:Type _} {b:α} {l:List α} {a:α},a∈b::l↔a=b∨a∈l:=@List.mem_cons
theorem mV:∀ {α:Type _} {i:Nat} {b:α} {xs:Array α},xs[i]? =some b↔∃(h:i<Array.size xs),xs[i]=b:=@Array.getElem?_eq_some_iff
theorem jL:(false=true)=False:=@Bool.false_eq_true
theorem oD:∀ {α:Type _} {l:List α},List.length l=0→l=[]:=@List.eq_nil_of_length_eq_zero
theorem fR:∀ {n m k:Nat},n≤m→m≤k→n≤k:=@Nat.le_trans
theorem jM:∀ {α:Type _} (xs bs cs:List α),xs++bs++cs=xs++(bs++cs):=@List.append_assoc
theorem ln:∀ {i n:Nat},i<n→(List.range n)[i]? =some i:=@List.getElem?_range
theorem kI:∀ {α:Type _} {a:α} {xs:List α},List.length (a::xs)=List.length xs+1:=@List.length_cons
theorem oE:∀ {α:Type _} {b:α} {γ:Type _} {x:Option γ} {f:γ→α},Option.map f x=some b↔∃(a:γ),x=some a∧f a=b:=@Option.map_eq_some_iff
theorem oF:∀ {α:Type _} {i:Nat} {l:List α},List.length l≤i→List.take i l=l:=@List.take_of_length_le
theorem kJ:∀ {α:Type _} {a b:α},some a=some b→a=b:=@Option.some.inj
theorem mE:∀ {α:Type _} {p:α→Bool} (l m:List α),List.filter p (l++m)=List.filter p l++List.filter p m:=@List.filter_append
theorem mW:∀ {α:Type _} {p:α→Bool} {l:List α},List.any l p=true↔∃(x:α),x∈l∧p x=true:=@List.any_eq_true
theorem mF:∀ {α:Type _} (xs:List α),[]++xs=xs:=@List.nil_append
theorem oG:false≠true:=@Bool.false_ne_true
theorem rY:∀ {α:Type _} {l:List α} {i j:Nat},i<j→(List.take j l)[i]? =l[i]?:=@List.getElem?_take_of_lt
theorem ae:∀ {c:Prop} {_:Decidable c},¬c→∀ {α:Sort _} {t e:α},(if c then t else e)=e:=@if_neg
theorem ap:∀ {c:Prop} {_:Decidable c},c→∀ {α:Sort _} {t e:α},(if c then t else e)=t:=@if_pos
theorem bL:∀ {p:Prop} [Decidable p],p→decide p=true:=@decide_eq_true
theorem cI:∀ {p:Prop} [Decidable p],¬p→decide p=false:=@decide_eq_false
theorem cy:∀ {α:Type _} [BEq α] [LawfulBEq α] {a b:α},(a==b)=true↔a=b:=@beq_iff_eq
theorem gj:∀ {α:Type _} [BEq α] [LawfulBEq α] {a b:α},(a !=b)=false↔a=b:=@bne_eq_false_iff_eq
theorem qal:∀ {p:Prop} [Decidable p],(decide p=true)=p:=@decide_eq_true_eq
section
open Go
section
variable {P:Program} {ops:Array Oper} {md:Region.Mode} {S:World→Prop} {T:List Tmp} {F:Tmp→Value→World→Prop} {L:Nat→Option (Value→Prop)}
def ij (ops:Array Oper)(T:List Tmp)(F:Tmp→Value→World→Prop)(o:Oper)(a:Act)(w:World):Prop:=
 ∀t∈o.looksAt ops,t∈T→∀v,a.tmps[t]? =some v→F t v w
def om (S:World→Prop)(T:List Tmp)(F:Tmp→Value→World→Prop)(o:Oper)(w w':World)(u:Value):Prop:=
 S w'∧(∀t∈T,∀v,F t v w→F t v w')∧∀d,o.dst=some d→d∈T→F d u w'
def kl (P:Program)(S:World→Prop)(T:List Tmp)(F:Tmp→Value→World→Prop)(V:Value→Prop)(o:Oper)(w:World):Result Next→Prop
 |.ok (.value u) w'=>V u∧om S T F o w w' u
 |.ok (.enter f args) w'=>Calls P f args w' (fun e j=>∃u,e=.returned u∧V u∧om S T F o w j u)
 |_=>False
def Iq (P:Program)(ops:Array Oper)(S:World→Prop)(T:List Tmp)(F:Tmp→Value→World→Prop)(o:Oper)(a:Act)(v:Value):Prop:=
 ∀w,S w→ij ops T F o a w→(execOp a.eval o).run P w=.ok (.value v) w∧∀d,o.dst=some d→d∈T→F d v w
def fm (P:Program)(ops:Array Oper)(S:World→Prop)(T:List Tmp)(F:Tmp→Value→World→Prop)(o:Oper)(j:Option (Value→Prop))(a:Act)(V:Value→Prop):Prop:=
 (Region.wanted o (yielded ops a.tmps)=true∧j=none∧∃v,V=(·=v)∧Iq P ops S T F o a v)∨
 (Region.wanted o (yielded ops a.tmps)=true∧j=some V∧∀w,S w→ij ops T F o a w→kl P S T F V o w ((execOp a.eval o).run P w))∨
 (Region.wanted o (yielded ops a.tmps)=false∧V=(·=undef)∧∀d,o.dst=some d→d∉T)
theorem fm.unique {o:Oper}{I:Option (Value→Prop)}{a:Act}{V Y:Value→Prop}(h:fm P ops S T F o I a V)(h':fm P ops S T F o I a Y){w:World}(hw:S w)(hp:ij ops T F o a w):V=Y:=by
 rcases h with ⟨h1,J,v,rfl,h3⟩|⟨h1,J,_⟩|⟨h1,rfl,_⟩
 ·rcases h' with ⟨j,C,v',rfl,k3⟩|⟨j,C,_⟩|⟨j,_⟩
  ·have R:=(h3 w hw hp).1;rw[(k3 w hw hp).1] at R;iterate 2 injection R with R
   subst R;rfl
  ·rw[J] at C;cases C
  rw[h1] at j;cases j
 ·rcases h' with ⟨j,C,_⟩|⟨j,C,_⟩|⟨j,_⟩
  ·rw[J] at C;cases C
  ·rw[J] at C;injection C
  rw[h1] at j;cases j
 rcases h' with ⟨j,_⟩|⟨j,_⟩|⟨_,rfl,_⟩;·rw[h1] at j;cases j
 ·rw[h1] at j;cases j
 rfl
theorem fm.some_ {o:Oper}{C:Option (Value→Prop)}{a:Act}{V:Value→Prop}(h:fm P ops S T F o C a V){w:World}(hw:S w)(J:ij ops T F o a w):∃u w',V u∧om S T F o w w' u:=by
 rcases h with ⟨_,_,v,rfl,j⟩|⟨_,_,j⟩|⟨_,rfl,j⟩;·exact⟨v,w,rfl,hw,fun _ _ _ h=>h,(j w hw J).2⟩
 ·(
 have h:=j w hw J;generalize (execOp a.eval o).run P w=r at h;cases r with
 |ok n w'=>
  cases n<;>simp only[kl] at h
  case value u=>exact⟨u,w',h⟩
  case enter f args=>obtain⟨e,I,_,⟨u,_,R,Y⟩,_⟩:=h [];exact⟨u,I,R,Y⟩
 |halt x w'=>simp only[kl] at h)
 exact⟨undef,w,rfl,hw,fun _ _ _ h=>h,fun d hd ht=>absurd ht (j d hd)⟩
theorem ij.put {o:Oper}{a:Act}{w:World}{dst:Option Tmp}{u:Value}(h:∀d,dst=some d→d∉o.looksAt ops):ij ops T F o (a.put dst u) w↔ij ops T F o a w:=by
 unfold ij;constructor
 ·intro J t C R v I;refine J t C R v ?_;cases dst with
  |none=>exact I
  |some d=>have j:d≠t:=fun e=>h d rfl (e▸C);simpa [Act.put,Array.getElem?_setIfInBounds_ne j] using I
 intro J t C R v I;refine J t C R v ?_;cases dst with
 |none=>exact I
 |some d=>have j:d≠t:=fun e=>h d rfl (e▸C);simpa [Act.put,Array.getElem?_setIfInBounds_ne j] using I
theorem fm.put {o:Oper}{j:Option (Value→Prop)}{a:Act}{V:Value→Prop}{dst:Option Tmp}{u:Value}(C:∀cs b,o.op≠.select cs b)(h:∀d,dst=some d→d∉o.looksAt ops):
 fm P ops S T F o j (a.put dst u) V↔fm P ops S T F o j a V:=by
 unfold fm Iq;rw[execOp_put o C a dst u h,wanted_put o a dst u h];simp only[ij.put h]
def eU (ops:Array Oper)(T:List Tmp)(F:Tmp→Value→World→Prop)(listed:Array Bool)(a:Act)(w:World):Prop:=
 ∀k o d,listed.getD k false=true→ops[k]? =some o→o.dst=some d→d∈T→∀v,a.tmps[d]? =some v→F d v w
def lk (md:Region.Mode)(ops:Array Oper)(T:List Tmp):Prop:=
 (∀(i j:Nat) (x y:Oper) (t:Tmp),ops[i]? =some x→ops[j]? =some y→x.dst=some t→y.dst=some t→t∈T→i=j)∧
 (∀(j:Nat) (y:Oper) (t:Tmp),ops[j]? =some y→t∈y.looksAt ops→t∈T→∃(k:Nat) (x:Oper),ops[k]? =some x∧x.dst=some t∧∃e∈y.after,Region.binds md e=true∧e.on=k)∧
 (∀t∈T,∃(k:Nat) (x:Oper),ops[k]? =some x∧x.dst=some t)
def ns (md:Region.Mode)(ops:Array Oper)(T:List Tmp):Bool:=
 (List.range ops.size).all (fun i=>(List.range ops.size).all fun j=>match ops[i]?,ops[j]? with
  |some x,some y=>(match x.dst,y.dst with|some t,some u=>!(t==u)||!T.contains t||i==j|_,_=>true)
  |_,_=>true)&&
 (List.range ops.size).all (fun j=>match ops[j]? with
  |some y=>(y.looksAt ops).all fun t=>!T.contains t||(List.range ops.size).any fun k=>match ops[k]? with
   |some x=>x.dst==some t&&y.after.any fun e=>Region.binds md e&&e.on==k
   |none=>false
  |none=>true)&&
 T.all fun t=>(List.range ops.size).any fun k=>match ops[k]? with|some x=>x.dst==some t|none=>false
theorem sU (h:ns md ops T=true):lk md ops T:=by
 unfold ns at h;simp only[gE,List.all_eq_true,fg] at h;obtain⟨⟨h1,R⟩,Y⟩:=h;refine⟨fun i j x y t hi C o hy I=>?_,fun j y t C hl I=>?_,fun t I=>?_⟩
 ·have:=h1 i (mV.1 hi).1 j (mV.1 C).1
  simp only[hi,C,o,hy] at this;simpa [I] using this
 ·have:=R j (mV.1 C).1;simp only[C,List.all_eq_true] at this;have:=this t hl;simp only[Bool.or_eq_true,Bool.not_eq_true',List.contains_eq_mem,decide_eq_false_iff_not,I,not_true_eq_false,false_or,mW,fg] at this;obtain⟨k,hk,h⟩:=this;cases o:ops[k]? with
  |none=>simp[o] at h
  |some x=>simp only[o,gE,cy] at h;obtain⟨hd,he⟩:=h;obtain⟨e,he,J⟩:=Array.any_eq_true'.1 he;simp only[gE,cy] at J;exact⟨k,x,o,hd,e,he,J.1,J.2⟩
 have:=Y t I;simp only[mW,fg] at this;obtain⟨k,_,h⟩:=this;cases o:ops[k]? with
 |none=>simp[o] at h
 |some x=>simp only[o,cy] at h;exact⟨k,x,o,h⟩
theorem eU.pre {listed:Array Bool}{a:Act}{w:World}(hm:lk md ops T)(h:eU ops T F listed a w){j:Nat}{y:Oper}(R:j∈Region.ready md ops listed)(hy:ops[j]? =some y):ij ops T F y a w:=by intro t Y I v hv;obtain⟨k,x,hx,hd,e,he,hb,hk⟩:=hm.2.1 j y t hy Y I;obtain⟨_,o,J,C⟩:=mem_ready.1 R;rw[hy] at J;cases J;have:=C e he hb;rw[hk] at this;exact h k x t this hx hd I v hv
theorem Az {listed:Array Bool}{i k:Nat}(h:(listed.setIfInBounds i true).getD k false=true):k=i∨listed.getD k false=true:=by
 by_cases e:i=k;·exact .inl e.symm
 rw[getD_set_ne false e] at h;exact .inr h
theorem eU.next {listed:Array Bool}{a:Act}{w w':World}{i:Nat}{o:Oper}{u:Value}(h:eU ops T F listed a w)(hi:ops[i]? =some o)(g:om S T F o w w' u):eU ops T F (listed.setIfInBounds i true) (a.put o.dst u) w':=by
 intro k x d J R hd Y v j;by_cases e:o.dst=some d
 ·have C:v=u:=by(
 rw[e] at j;simp only[Act.put,Array.getElem?_setIfInBounds] at j;split at j
 ·split at j
  ·exact(kJ j).symm
  cases j
 rename_i h;exact absurd trivial h)
  subst C;exact g.2.2 d e Y
 have C:a.tmps[d]? =some v:=by(
 cases I:o.dst with
 |none=>rw[I] at j;exact j
 |some d'=>rw[I] at j e;have a1:d'≠d:=fun x=>e (by rw[x]);simpa [Act.put,Array.getElem?_setIfInBounds_ne a1] using j)
 rcases Az J with rfl|J;·rw[hi] at R;cases R;exact absurd hd e
 exact g.2.1 d Y v (h k x d J R hd Y v C)
theorem eU.less {listed:Array Bool}{a:Act}{w:World}{j:Nat}{y:Oper}{u:Value}(hm:lk md ops T)(hj:ops[j]? =some y)(o:listed.getD j true=false)(h:eU ops T F (listed.setIfInBounds j true) (a.put y.dst u) w):eU ops T F listed a w:=by
 intro k x d I Y hd hT v hv;have J:k≠j:=by
  rintro rfl;rcases Nat.lt_or_ge k listed.size with h'|h';·simp[h'] at I o;rw[I] at o;cases o
  simp[jK h'] at I
 have C:y.dst≠some d:=fun e=>J (hm.1 k j x y d Y hj hd e hT);refine h k x d (getD_set_true I) Y hd hT v ?_;cases R:y.dst with
 |none=>exact hv
 |some d'=>rw[R] at C;have:d'≠d:=fun x=>C (by rw[x]);simpa [Act.put,Array.getElem?_setIfInBounds_ne this] using hv
def oZ (P:Program)(md:Region.Mode)(ops:Array Oper)(S:World→Prop)(T:List Tmp)(F:Tmp→Value→World→Prop)(L:Nat→Option (Value→Prop))(Q:Act→Prop):Nat→Array Bool→Act→Prop
 |0,listed,a=>(∃w,S w∧eU ops T F listed a w)→Region.ready md ops listed=[]∧Q a
 |fuel+1,listed,a=>(∃w,S w∧eU ops T F listed a w)→(Region.ready md ops listed=[]→Q a)∧
  ∀i∈Region.ready md ops listed,∀o,ops[i]? =some o→∃V,fm P ops S T F o (L i) a V∧∀v,V v→oZ P md ops S T F L Q fuel (listed.setIfInBounds i true) (a.put o.dst v)
theorem iD {Q:Act→Prop}{Q':Exit→Act→World→Prop}(hm:lk md ops T)
 (J:∀listed a w,listed.size=ops.size→Region.ready md ops listed=[]→S w→eU ops T F listed a w→Q a→Q' .normal a w):∀(fuel:Nat) (listed:Array Bool) (a:Act) (w:World),listed.size=ops.size→S w→eU ops T F listed a w→
 oZ P md ops S T F L Q fuel listed a→wpAny P md ops Q' fuel listed a w
 |0,listed,a,w,Y,hw,j,h=>⟨(h ⟨w,hw,j⟩).1,J _ _ _ Y (h ⟨w,hw,j⟩).1 hw j (h ⟨w,hw,j⟩).2⟩
 |fuel+1,listed,a,w,Y,hw,j,h=>by(
 refine⟨fun h0=>J _ _ _ Y h0 hw j ((h ⟨w,hw,j⟩).1 h0),fun i hi=>?_⟩;have C:(listed.setIfInBounds i true).size=ops.size:=by rw[Array.size_setIfInBounds];exact Y
 obtain⟨_,o,I,_⟩:=mem_ready.1 hi;obtain⟨V,hy,hn⟩:=(h ⟨w,hw,j⟩).2 i hi o I;have hp:=j.pre hm hi I;unfold wpOp;simp only[I];rcases hy with ⟨h1,_,v,rfl,R⟩|⟨h1,_,R⟩|⟨h1,rfl,R⟩;·rw[ap h1];left;obtain⟨hr,hd⟩:=R w hw hp;unfold Oper.wp;rw[hr];exact iD hm J fuel _ _ w C hw (j.next I ⟨hw,fun _ _ _ h=>h,hd⟩) (hn v rfl)
 ·(
 rw[ap h1];left;have hr:=R w hw hp;unfold Oper.wp;generalize (execOp a.eval o).run P w=r at hr;cases r with
 |ok n w'=>
  cases n<;>simp only[kl] at hr<;>simp only[Oper.upon]
  case value u=>exact iD hm J fuel _ _ w' C hr.2.1 (j.next I hr.2) (hn u hr.1)
  case enter f args=>(refine hr.mono ?_;rintro e a1 ⟨u,rfl,hv,hg⟩;exact iD hm J fuel _ _ a1 C hg.1 (j.next I hg) (hn u hv))
 |halt x w'=>simp only[kl] at hr)
 rw[ae (by rw[h1];exact oG)];exact iD hm J fuel _ _ w C hw (j.next I ⟨hw,fun _ _ _ h=>h,fun d hd ht=>absurd ht (R d hd)⟩) (hn undef rfl))
theorem xw {Q:Act→Prop}{i:Nat}{oi:Oper}{V:Value→Prop}(hm:lk md ops T)(hi:ops[i]? =some oi)(a6:∀(j:Nat) (o:Oper) cs b,ops[j]? =some o→o.op≠.select cs b):
 ∀(fuel:Nat) (listed:Array Bool) (a:Act),
  (∀j R,ops[j]? =some R→j≠i→listed.getD j true=false→(∀e∈R.after,Region.binds md e=true→e.on≠i)→oi.apart ops R=true)→
  i∈Region.ready md ops listed→fm P ops S T F oi (L i) a V→
  (∀v,V v→oZ P md ops S T F L Q fuel (listed.setIfInBounds i true) (a.put oi.dst v))→oZ P md ops S T F L Q (fuel+1) listed a:=by
 intro fuel;induction fuel with
 |zero=>
  intro listed a _ hr hy H J;obtain⟨w0,b0,Y⟩:=J;obtain⟨v0,w1,b4,hg⟩:=hy.some_ b0 (Y.pre hm hr hi);have h1:=H v0 b4 ⟨w1,hg.1,Y.next hi hg⟩;refine⟨fun h=>(by rw[h] at hr;cases hr),fun j hj o ho=>?_⟩;by_cases C:j=i;·subst C;rw[hi] at ho;cases ho;exact⟨V,hy,H⟩
  have:=ready_mono hj C;rw[h1.1] at this;cases this
 |succ fuel ih=>
  intro listed a a7 hr hy H J;obtain⟨w0,b0,Y⟩:=J;obtain⟨v0,w1,b4,hg⟩:=hy.some_ b0 (Y.pre hm hr hi);have h1:=H v0 b4 ⟨w1,hg.1,Y.next hi hg⟩;refine⟨fun h=>(by rw[h] at hr;cases hr),fun j hj R I=>?_⟩;by_cases C:j=i;·subst C;rw[hi] at I;cases I;exact⟨V,hy,H⟩
  obtain⟨a8,d9,b2,b6⟩:=mem_ready.1 hj;rw[I] at b2;cases b2;have b7:∀e∈R.after,Region.binds md e=true→e.on≠i:=fun e he hb heq=>by(
 have h1:=b6 e he hb;have h0:=(mem_ready.1 hr).1;rw[heq] at h1;rcases Nat.lt_or_ge i listed.size with h'|h';·simp[h'] at h0 h1;rw[h0] at h1;cases h1
 simp[jK h'] at h1)
  obtain⟨a1,a2,a3⟩:=Oper.apart_spec (a7 j R I C a8 b7);obtain⟨Vj,c4,_⟩:=h1.2 j (ready_mono hj C) R I;have b3:=(fm.put (fun cs b=>a6 j R cs b I) a1).1 c4;have c5:=Y.pre hm hj I
  have b1:∀k ok,ops[k]? =some ok→k≠i→(listed.setIfInBounds j true).getD k true=false→
   (∀e∈ok.after,Region.binds md e=true→e.on≠i)→oi.apart ops ok=true:=fun k ok hk c6 b8 c7=>by
   refine a7 k ok hk c6 ?_ c7;by_cases b9:j=k;·subst b9;exact a8
   rw[getD_set_ne true b9] at b8;exact b8
  refine⟨Vj,b3,fun u hu=>ih (listed.setIfInBounds j true) (a.put R.dst u) b1 (ready_mono hr (Ne.symm C)) ((fm.put (fun cs b=>a6 i oi cs b hi) a3).2 hy) fun v hv=>?_⟩;have comm:=Act.put_comm a v u a2;have key:(∃w,S w∧eU ops T F ((listed.setIfInBounds j true).setIfInBounds i true) ((a.put R.dst u).put oi.dst v) w)→oZ P md ops S T F L Q fuel ((listed.setIfInBounds j true).setIfInBounds i true) ((a.put R.dst u).put oi.dst v):=by(
 rintro⟨w2,c8,c0⟩;rw[←comm,Array.setIfInBounds_comm _ _ C] at c0⊢;have b5:(listed.setIfInBounds i true).getD j true=false:=by rw[getD_set_ne true (Ne.symm C)];exact a8
 have c9:=c0.less hm I b5;obtain⟨V2,d7,d8⟩:=(H v hv ⟨w2,c8,c9⟩).2 j (ready_mono hj C) R I;have c1:=(fm.put (fun cs b=>a6 j R cs b I) a1).1 d7;have:=b3.unique c1 b0 c5;subst this;exact d8 u hu)
  cases fuel with
  |zero=>exact fun J=>key J J
  |succ fuel=>exact fun J=>key J J
def nG (P:Program)(ops:Array Oper)(S:World→Prop)(T:List Tmp)(F:Tmp→Value→World→Prop)(L:Nat→Option (Value→Prop))(Q:Act→Prop):List Oper→Nat→Act→Prop
 | [],_,a=>Q a
 |o::rest,k,a=>∃V,fm P ops S T F o (L k) a V∧∀v,V v→nG P ops S T F L Q rest (k+1) (a.put o.dst v)
theorem pd {Q:Act→Prop}(hm:lk md ops T)(I:Region.noSelect ops=true):∀(l:List Oper) (k:Nat) (listed:Array Bool) (a:Act),(∀j,l[j]? =ops[k+j]?)→
 Region.lexFrom md ops l.length k listed=true→nG P ops S T F L Q l k a→oZ P md ops S T F L Q l.length listed a
 | [],_,_,_,_,hB,h=>fun _=>⟨by simpa [Region.lexFrom] using hB,h⟩
 |o::l,k,listed,a,hl,hB,h=>by(
 have J:ops[k]? =some o:=by simpa using(hl 0).symm
 simp only[kI,Region.lexFrom,gE] at hB;obtain⟨⟨hr,R⟩,C⟩:=hB;obtain⟨V,hy,Y⟩:=h
 exact xw hm J (Region.noSelect_spec I) l.length listed a (Region.free_spec J R) (by simpa using hr) hy
  fun v hv=>pd hm I l (k+1) _ _ (fun j=>by have:=hl (j+1);simpa [Nat.add_assoc,Nat.add_comm 1 j] using this) C (Y v hv))
theorem vO {listed:Array Bool}(I:listed.size=ops.size)(h:Region.ready md ops listed=[])(hB:∀(k:Nat) o,ops[k]? =some o→∀e∈o.after,Region.binds md e=true→e.on<k):∀n k,k≤n→k<ops.size→listed.getD k false=true:=by
 intro n;induction n with
 |zero=>
  intro k J j;obtain rfl:k=0:=by omega
  cases hl:listed.getD 0 true with
  |true=>simpa [I,j] using hl
  |false=>have:0∈Region.ready md ops listed:=mem_ready.2 ⟨hl,_,Array.getElem?_eq_getElem j,fun e he C=>by have:=hB 0 _ (Array.getElem?_eq_getElem j) e he C;omega⟩;rw[h] at this;cases this
 |succ n R=>
  intro k J j;cases hl:listed.getD k true with
  |true=>simpa [I,j] using hl
  |false=>have:k∈Region.ready md ops listed:=mem_ready.2 ⟨hl,_,Array.getElem?_eq_getElem j,fun e he C=>by have Y:=hB k _ (Array.getElem?_eq_getElem j) e he C;exact R e.on (by omega) (by omega)⟩;rw[h] at this;cases this
def BH (md:Region.Mode)(ops:Array Oper):Bool:=(List.range ops.size).all fun k=>match ops[k]? with|some o=>o.after.all fun e=>!Region.binds md e||decide (e.on<k)|none=>true
theorem BI (h:BH md ops=true):∀(k:Nat) o,ops[k]? =some o→∀e∈o.after,Region.binds md e=true→e.on<k:=by intro k o j e he C;unfold BH at h;simp only[List.all_eq_true,fg] at h;have:=h k (mV.1 j).1;simp only[j] at this;have:=Array.all_eq_true_iff_forall_mem.1 this e he;simpa [C] using this
theorem eK {id:Nat}{Q:Exit→Act→World→Prop}{a:Act}{w:World}{l:List Oper}(S:World→Prop)(T:List Tmp)(F:Tmp→Value→World→Prop)(L:Nat→Option (Value→Prop))(hm:P.follows .mixedOrders=true)(hB:Region.lexB .any l.toArray=true)(hT:ns .any l.toArray T=true)(hA:BH .any l.toArray=true)
 (hS:S w.drew) (h:nG P l.toArray S T F L (fun C=>∀w',S w'→(∀t∈T,∀v,C.tmps[t]? =some v→F t v w')→Q .normal C w') l 0 a):(Code.region id l.toArray true).wp P Q a w:=by
 simp only[Region.lexB,gE] at hB;have j:=sU hT;refine wp_region_any hm (iD (S:=S) (T:=T) (F:=F) (L:=L) (Q:=fun C=>∀w',S w'→(∀t∈T,∀v,C.tmps[t]? =some v→F t v w')→Q .normal C w') j (fun listed C w' hz hr I hf h=>h w' I fun t R v hv=>?_) _ _ _ _ (by simp) hS (fun k o d J=>by exfalso;simp only[Array.getD_eq_getD_getElem?,Array.getElem?_replicate] at J;split at J<;>simp at J) ?_)
 ·obtain⟨k,x,Y,hd⟩:=j.2.2 t R
  exact hf k x t (vO hz hr (BI hA) _ k (cf _) (mV.1 Y).1) Y hd R v hv
 have:=pd (P:=P) (S:=S) (F:=F) (L:=L) j hB.1 l 0 (Array.replicate l.toArray.size false) a (by simp) (by simpa using hB.2) h;simpa using this
section steps
variable {Q:Act→Prop} {o:Oper} {rest:List Oper} {k:Nat} {a:Act}
theorem dQ (h:Q a):nG P ops S T F L Q [] k a:=h
theorem bG {v:Value}(hw:Region.wanted o (yielded ops a.tmps)=true)(hl:L k=none)(j:∀d,o.dst=some d→d∉T)(h:∀w,S w→ij ops T F o a w→(execOp a.eval o).run P w=.ok (.value v) w)(C:nG P ops S T F L Q rest (k+1) (a.put o.dst v)):nG P ops S T F L Q (o::rest) k a:=
 ⟨_,.inl ⟨hw,hl,v,rfl,fun w I J=>⟨h w I J,fun d R Y=>absurd Y (j d R)⟩⟩,fun _ e=>by subst e;exact C⟩
theorem gi {V:Value→Prop}(hw:Region.wanted o (yielded ops a.tmps)=true)(hl:L k=some V)(h:∀w,S w→ij ops T F o a w→kl P S T F V o w ((execOp a.eval o).run P w))(j:∀v,V v→nG P ops S T F L Q rest (k+1) (a.put o.dst v)):nG P ops S T F L Q (o::rest) k a:=
 ⟨V,.inr (.inl ⟨hw,hl,h⟩),j⟩
theorem jf (hw:Region.wanted o (yielded ops a.tmps)=false)(j:∀d,o.dst=some d→d∉T)(C:nG P ops S T F L Q rest (k+1) (a.put o.dst undef)):nG P ops S T F L Q (o::rest) k a:=
 ⟨_,.inr (.inr ⟨hw,rfl,j⟩),fun _ e=>by subst e;exact C⟩
theorem OR {v:Value}{j:Act}(h:∀w,S w→ij ops T F o a w→(execOp a.eval o).run P w=.ok (.value v) w)(C:nG P ops S T F L Q rest (k+1) j)(hw:Region.wanted o (yielded ops a.tmps)=true:=by rfl)(hl:L k=none:=by rfl)(I:∀d,o.dst=some d→d∉T:=by intro d J;cases J;decide)(R:a.put o.dst v=j:=by conv=>lhs;simp only[Act.put,List.setIfInBounds_toArray,List.set_cons_zero,List.set_cons_succ]):nG P ops S T F L Q (o::rest) k a:=bG hw hl I h (by rw[R];exact C)
end steps
end
end
end Go.Proofs.YtgdlhckhpolnnaaGreatDoor
