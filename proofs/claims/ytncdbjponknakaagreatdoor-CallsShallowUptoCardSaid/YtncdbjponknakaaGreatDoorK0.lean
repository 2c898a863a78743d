/- Part 1 of the proof of CallsShallow (its last part says what is proved). No condition. -/
import Derived.Lib.Hide
import Derived.WalkSpells
import Derived.WalkLawsBesides
import Derived.BigQuiet
import Derived.Deep.LoopGhost
import Derived.Test.YtncdbjponknakaaGreatDoorRows
namespace Go.Proofs.YtncdbjponknakaaGreatDoor
set_option maxRecDepth 100000
set_option maxHeartbeats 8000000
open Go.RowKit Go.Proofs.Tryz
theorem oH {p:Prop}(h:p):Hid p:=h
theorem eQ {α:Type}(a:α):∃x,x=a:=⟨a,rfl⟩
theorem eR {α:Type}(a:α):∃x,a=x:=⟨a,rfl⟩
theorem eG {α:Type}{l:List α}{i:Nat}(h:i<l.length):∃x,l[i]? =some x:=⟨_,List.getElem?_eq_getElem h⟩
theorem nK (n:Nat)(m:Int)(h:(n:Int)≠m):((n:Int)==m)=false:=beq_eq_false_iff_ne.2 h
theorem yK (n:Nat)(m:Int)(h:(n:Int)=m):((n:Int)==m)=true:=beq_iff_eq.2 h
theorem mK (n:Nat)(m:Int)(h:(n:Int)≠m):((n:Int) !=m)=true:=by simpa using h
theorem wK (n:Nat)(m:Int)(h:(n:Int)=m):((n:Int) !=m)=false:=by simpa using h
theorem gc {α:Type}:(∀(l:List α) (i:Nat),l.toArray[i]? =l[i]?)∧(∀(a:α) (l:List α),(a::l)[0]? =some a)∧∀(a:α) (l:List α) (i:Nat),(a::l)[i+1]? =l[i]?:=⟨fun _ _=>by simp,fun _ _=>rfl,fun _ _ _=>by simp⟩
theorem ga {α:Type}:(∀(l:List α) (i:Nat) (a:α),l.toArray.setIfInBounds i a=(l.set i a).toArray)∧(∀(a b:α) (l:List α),(a::l).set 0 b=b::l)∧∀(a b:α) (l:List α) (i:Nat),(a::l).set (i+1) b=a::l.set i b:=⟨fun _ _ _=>by simp,fun _ _ _=>rfl,fun _ _ _ _=>rfl⟩
theorem tK {α:Type}:(∀(a:α) (l:List α) (i:Nat),(a::l).take (i+1)=a::l.take i)∧∀(l:List α),l.take 0=[]:=⟨fun _ _ _=>rfl,fun _=>by simp⟩
theorem dK {α:Type}:(∀(a:α) (l:List α) (i:Nat),(a::l).drop (i+1)=l.drop i)∧(∀(i:Nat),([]:List α).drop i=[])∧∀(l:List α),l.drop 0=l:=⟨fun _ _ _=>rfl,fun _=>by simp,fun _=>rfl⟩
theorem PS:(∀(a:Act) (t:Tmp) (v:Value),a.put (some t) v= {a with tmps:=a.tmps.setIfInBounds t v})∧(∀(a:Act) (v:Value),a.put none v=a)∧(∀(l:List Value) (i:Nat) (a:Value),l.toArray.setIfInBounds i a=(l.set i a).toArray)∧(∀(a b:Value) (l:List Value),(a::l).set 0 b=b::l)∧∀(a b:Value) (l:List Value) (i:Nat),(a::l).set (i+1) b=a::l.set i b:=⟨fun _ _ _=>rfl,fun _ _=>rfl,ga⟩
theorem bE {α:Type}[BEq α][LawfulBEq α]{a b:α}:(a==b)=false↔a≠b:=beq_eq_false_iff_ne
theorem lG {α:Type}{l:List α}{i:Nat}(h:i<l.length):l[i]? =some l[i]:=List.getElem?_eq_getElem h
theorem lS {α:Type}{l:List α}{i:Nat}{a:α}:l[i]? =some a↔∃h:i<l.length,l[i]=a:=List.getElem?_eq_some_iff
theorem mG {α:Type}{l:List α}{i:Nat}{a:α}(h:l[i]? =some a):a∈l:=List.mem_of_getElem? h
theorem J2 {p q:Prop}(j:p)(l:q):Hid (p∧q):=⟨j,l⟩
theorem J3 {p q r:Prop}(j:p)(l:q)(o:r):Hid (p∧q∧r):=⟨j,l,o⟩
theorem J4 {p q r s:Prop}(j:p)(l:q)(o:r)(C:s):Hid (p∧q∧r∧s):=⟨j,l,o,C⟩
theorem J5 {p q r s t:Prop}(j:p)(l:q)(o:r)(C:s)(J:t):Hid (p∧q∧r∧s∧t):=⟨j,l,o,C,J⟩
theorem J6 {p q r s t u:Prop}(j:p)(l:q)(o:r)(C:s)(J:t)(hu:u):Hid (p∧q∧r∧s∧t∧u):=⟨j,l,o,C,J,hu⟩
theorem J7 {p q r s t u v:Prop}(j:p)(l:q)(o:r)(C:s)(J:t)(hu:u)(R:v):Hid (p∧q∧r∧s∧t∧u∧v):=⟨j,l,o,C,J,hu,R⟩
theorem J8 {p q r s t u v x:Prop}(j:p)(l:q)(o:r)(C:s)(J:t)(hu:u)(R:v)(Y:x):Hid (p∧q∧r∧s∧t∧u∧v∧x):=⟨j,l,o,C,J,hu,R,Y⟩
theorem J9 {p q r s t u v x y:Prop}(j:p)(l:q)(o:r)(C:s)(J:t)(hu:u)(R:v)(Y:x)(Z:y):Hid (p∧q∧r∧s∧t∧u∧v∧x∧y):=⟨j,l,o,C,J,hu,R,Y,Z⟩
theorem J10 {p q r s t u v x y z:Prop}(j:p)(l:q)(o:r)(C:s)(J:t)(hu:u)(R:v)(Y:x)(Z:y)(hz:z):Hid (p∧q∧r∧s∧t∧u∧v∧x∧y∧z):=⟨j,l,o,C,J,hu,R,Y,Z,hz⟩
theorem J11 {p q r s t u v x y z a:Prop}(j:p)(l:q)(o:r)(C:s)(J:t)(hu:u)(R:v)(Y:x)(Z:y)(hz:z)(ha:a):Hid (p∧q∧r∧s∧t∧u∧v∧x∧y∧z∧a):=⟨j,l,o,C,J,hu,R,Y,Z,hz,ha⟩
theorem J12 {p q r s t u v x y z a b:Prop}(j:p)(l:q)(o:r)(C:s)(J:t)(hu:u)(R:v)(Y:x)(Z:y)(hz:z)(ha:a)(hb:b):Hid (p∧q∧r∧s∧t∧u∧v∧x∧y∧z∧a∧b):=⟨j,l,o,C,J,hu,R,Y,Z,hz,ha,hb⟩
theorem J13 {p q r s t u v x y z a b c:Prop}(j:p)(l:q)(o:r)(C:s)(J:t)(hu:u)(R:v)(Y:x)(Z:y)(hz:z)(ha:a)(hb:b)(hc:c):Hid (p∧q∧r∧s∧t∧u∧v∧x∧y∧z∧a∧b∧c):=⟨j,l,o,C,J,hu,R,Y,Z,hz,ha,hb,hc⟩
theorem J14 {p q r s t u v x y z a b c d:Prop}(j:p)(l:q)(o:r)(C:s)(J:t)(hu:u)(R:v)(Y:x)(Z:y)(hz:z)(ha:a)(hb:b)(hc:c)(hd:d):Hid (p∧q∧r∧s∧t∧u∧v∧x∧y∧z∧a∧b∧c∧d):=⟨j,l,o,C,J,hu,R,Y,Z,hz,ha,hb,hc,hd⟩
theorem J15 {p q r s t u v x y z a b c d e:Prop}(j:p)(l:q)(o:r)(C:s)(J:t)(hu:u)(R:v)(Y:x)(Z:y)(hz:z)(ha:a)(hb:b)(hc:c)(hd:d)(he:e):Hid (p∧q∧r∧s∧t∧u∧v∧x∧y∧z∧a∧b∧c∧d∧e):=⟨j,l,o,C,J,hu,R,Y,Z,hz,ha,hb,hc,hd,he⟩
theorem J16 {p q r s t u v x y z a b c d e f:Prop}(j:p)(l:q)(o:r)(C:s)(J:t)(hu:u)(R:v)(Y:x)(Z:y)(hz:z)(ha:a)(hb:b)(hc:c)(hd:d)(he:e)(hf:f):Hid (p∧q∧r∧s∧t∧u∧v∧x∧y∧z∧a∧b∧c∧d∧e∧f):=⟨j,l,o,C,J,hu,R,Y,Z,hz,ha,hb,hc,hd,he,hf⟩
theorem cx:∀ {α:Type _} {a b:α},a∈[b]↔a=b:=@List.mem_singleton
theorem cY:∀ {α:Type _} {a:α} {l:List α},a∈l↔∃(i:Nat),l[i]? =some a:=@List.mem_iff_getElem?
theorem ce:∀ {α:Type _} {β:Type _} {xs:List α} (f:α→β),List.length (List.map f xs)=List.length xs:=@List.length_map
theorem cL:∀ {α:Type _} {β:Type _} {f:α→β} {l:List α} {i:Nat},(List.map f l)[i]? =Option.map f l[i]?:=@List.getElem?_map
theorem cU:∀ {α:Type _} {l:List α} {i:Nat},List.take (i+1) l=List.take i l++Option.toList l[i]?:=@List.take_add_one
theorem cf:∀(n:Nat),n≤n:=@Nat.le_refl
theorem dP:∀(n:Nat),Int.toNat (n:Int)=n:=@Int.toNat_natCast
theorem iG:∀ {α:Type _} {l:List α} {i:Nat} {a:α},List.getD l i a=Option.getD l[i]? a:=@List.getD_eq_getElem?_getD
theorem cN:∀(n:Nat),0+n=n:=@Nat.zero_add
theorem dZ:∀ {α:Type _} {l:List α},List.take (List.length l) l=l:=@List.take_length
theorem eL:∀ {α:Type _} {l:List α} {n:Nat} (h:n<List.length l),l[n]∈l:=@List.getElem_mem
theorem eD:∀ {α:Type _} {a:α} {s t:List α},a∈s++t↔a∈s∨a∈t:=@List.mem_append
theorem dj:∀(n:Nat),n+0=n:=@Nat.add_zero
theorem dr:∀ {α:Type _} {β:Type _} {b:β} {f:α→β} {l:List α},b∈List.map f l↔∃(a:α),a∈l∧f a=b:=@List.mem_map
theorem fN:∀ {α:Type _} {i:Nat} {l:List α},List.length (List.take i l)=min i (List.length l):=@List.length_take
theorem jy:∀(w:World) (a:Addr) {u:Value},World.cell? w a=some u→Addr.block a<Array.size (World.heap w):=@World.block_lt_of_cell?
theorem kH:∀ {α:Type _} {l m:List α} {i:Nat},List.length l≤i→(l++m)[i]? =m[i-List.length l]?:=@List.getElem?_append_right
theorem fg:∀ {m n:Nat},m∈List.range n↔m<n:=@List.mem_range
theorem jK:∀ {α:Type _} {i:Nat} {xs:Array α},Array.size xs≤i→xs[i]? =none:=@Array.getElem?_eq_none
theorem jz:∀ {α:Type _} {l:List α} {i:Nat},List.length l≤i→l[i]? =none:=@List.getElem?_eq_none
theorem gE:∀(a b:Bool),((a&&b)=true)=(a=true∧b=true):=@Bool.and_eq_true
theorem jA:∀ {α:Type _} {γ:Type _} {f:Nat→α→γ} {l:List α} {i:Nat},(List.mapIdx f l)[i]? =Option.map (f i) l[i]?:=@List.getElem?_mapIdx
theorem eE:∀ {n m:Nat},n=m→n≤m:=@Nat.le_of_eq
theorem iQ:∀ {α:Type _} {xs j:List α},List.length (xs++j)=List.length xs+List.length j:=@List.length_append
theorem ma:∀ {α:Type _} {l m:List α} {i:Nat},i<List.length l→(l++m)[i]? =l[i]?:=@List.getElem?_append_left
theorem ic:∀ {α:Type _} {β:Type _} {f:α→β} {l m:List α},List.map f (l++m)=List.map f l++List.map f m:=@List.map_append
theorem fX:∀ {α:Type _} {b:α} {l:List α} {a:α},a∈b::l↔a=b∨a∈l:=@List.mem_cons
theorem mV:∀ {α:Type _} {i:Nat} {b:α} {xs:Array α},xs[i]? =some b↔∃(h:i<Array.size xs),xs[i]=b:=@Array.getElem?_eq_some_iff
theorem jL:(false=true)=False:=@Bool.false_eq_true
theorem oD:∀ {α:Type _} {l:List α},List.length l=0→l=[]:=@List.eq_nil_of_length_eq_zero
theorem fR:∀ {n m k:Nat},n≤m→m≤k→n≤k:=@Nat.le_trans
theorem jM:∀ {α:Type _} (xs j cs:List α),xs++j++cs=xs++(j++cs):=@List.append_assoc
theorem ln:∀ {i n:Nat},i<n→(List.range n)[i]? =some i:=@List.getElem?_range
theorem kI:∀ {α:Type _} {a:α} {xs:List α},List.length (a::xs)=List.length xs+1:=@List.length_cons
theorem oE:∀ {α:Type _} {b:α} {γ:Type _} {x:Option γ} {f:γ→α},Option.map f x=some b↔∃(a:γ),x=some a∧f a=b:=@Option.map_eq_some_iff
theorem oF:∀ {α:Type _} {i:Nat} {l:List α},List.length l≤i→List.take i l=l:=@List.take_of_length_le
theorem kJ:∀ {α:Type _} {a b:α},some a=some b→a=b:=@Option.some.inj
theorem mE:∀ {α:Type _} {p:α→Bool} (l m:List α),List.filter p (l++m)=List.filter p l++List.filter p m:=@List.filter_append
theorem mW:∀ {α:Type _} {p:α→Bool} {l:List α},List.any l p=true↔∃(x:α),x∈l∧p x=true:=@List.any_eq_true
theorem mF:∀ {α:Type _} (xs:List α),[]++xs=xs:=@List.nil_append
theorem oG:false≠true:=@Bool.false_ne_true
theorem rY:∀ {α:Type _} {l:List α} {i j:Nat},i<j→(List.take j l)[i]? =l[i]?:=@List.getElem?_take_of_lt
theorem ae:∀ {c:Prop} {_:Decidable c},¬c→∀ {α:Sort _} {t e:α},(if c then t else e)=e:=@if_neg
theorem ap:∀ {c:Prop} {_:Decidable c},c→∀ {α:Sort _} {t e:α},(if c then t else e)=t:=@if_pos
theorem bL:∀ {p:Prop} [Decidable p],p→decide p=true:=@decide_eq_true
theorem cI:∀ {p:Prop} [Decidable p],¬p→decide p=false:=@decide_eq_false
theorem cy:∀ {α:Type _} [BEq α] [LawfulBEq α] {a b:α},(a==b)=true↔a=b:=@beq_iff_eq
theorem gj:∀ {α:Type _} [BEq α] [LawfulBEq α] {a b:α},(a !=b)=false↔a=b:=@bne_eq_false_iff_eq
theorem iH:∀ {p:Prop} [Decidable p],(decide p=true)=p:=@decide_eq_true_eq
section
def All:Nat→Prop:=fun _=>True
structure aa (S:Nat→Prop)(w w':World):Prop where
 os:w'.os=w.os
 output:w'.output=w.output
 size:w.heap.size≤w'.heap.size
 block:∀k,k<w.heap.size→S k→w'.heap[k]? =w.heap[k]?
section
variable {S T:Nat→Prop} {w w' a b c:World}
theorem aa.refl (S:Nat→Prop)(w:World):aa S w w:=⟨rfl,rfl,cf _,fun _ _ _=>rfl⟩
theorem aa.trans (h:aa S a b)(k:aa S b c):aa S a c:=
 ⟨k.os.trans h.os,k.output.trans h.output,fR h.size k.size,fun i hi j=>(k.block i (Nat.lt_of_lt_of_le hi h.size) j).trans (h.block i hi j)⟩
theorem aa.mono (h:aa S w w')(j:∀k,T k→S k):aa T w w':=⟨h.os,h.output,h.size,fun k l o=>h.block k l (j k o)⟩
theorem aa.all (h:aa All w w'):aa S w w':=h.mono fun _ _=>trivial
theorem aa.drew (h:aa S a w):aa S a w.drew:=⟨h.os,h.output,h.size,h.block⟩
theorem aa.drewN (h:aa S a w)(n:Nat):aa S a (w.drewN n):=⟨h.os,h.output,h.size,h.block⟩
theorem aa.alloc (h:aa S a w)(o:Obj):aa S a (w.alloc o):=
 h.trans ⟨rfl,rfl,by simp,fun k j _=>by rw[World.alloc];show(w.heap.push o)[k]? =_;rw[Array.getElem?_push,ae (by omega)]⟩
theorem pI (w:World)(p:Addr)(u:Value)(k:Nat)(h:k≠p.block):(w.setCell p u).heap[k]? =w.heap[k]?:=by simp only[World.setCell,Array.getElem?_modify];rw[ae (by omega)]
theorem aa.setCell (h:aa S a w){p:Addr}(j:¬S p.block∨a.heap.size≤p.block)(u:Value):aa S a (w.setCell p u):=by refine⟨h.os,h.output,by simpa using h.size,fun k o l=>?_⟩;rw[pI _ _ _ _ (fun e=>by subst e;rcases j with j|j;exact j l;omega)];exact h.block k o l
theorem aa.grown (h:aa S a w){row:Option Nat}(g:w.grownBy w' row)(C:∀k,row=some k→¬S k∨a.heap.size≤k):aa S a w':=by refine⟨g.os.trans h.os,g.output.trans h.output,fR h.size g.size,fun k j l=>?_⟩;rw[g.block k (Nat.lt_of_lt_of_le j h.size) (fun e=>by rcases C k e.symm with o|o;exact o l;omega)];exact h.block k j l
theorem aa.cell (h:aa S w w'){p:Addr}{v:Value}(l:S p.block)(j:w.cell? p=some v):w'.cell? p=some v:=by have o:=jy w _ j;rw[World.cell?_of_block (h.block _ o l)];exact j
end
def al (w:World)(g:Nat)(t:TypeId)(cs:Array Value):Prop:=w.heap[g]? =some (.cells cs t (0,0))
section
variable {S:Nat→Prop} {w w':World} {g:Nat} {t:TypeId} {cs:Array Value}
theorem al.lt (h:al w g t cs):g<w.heap.size:=by
 rcases Nat.lt_or_ge g w.heap.size with j|l;·exact j
 unfold al at h;rw[jK l] at h;cases h
theorem al.cell (h:al w g t cs)(i:Nat):w.cell? ⟨g,i,none⟩=cs[i]?:=by unfold al at h;simp[World.cell?,h]
theorem al.free (h:al w g t cs)(i:Nat):w.frozen? ⟨g,i,none⟩=false:=by unfold al at h;simp[World.frozen?,h]
theorem al.new (w:World)(t:TypeId)(cs:Array Value):al (w.alloc (.cells cs t)) w.heap.size t cs:=by show(w.heap.push _)[w.heap.size]? =_;simp
theorem al.set (h:al w g t cs)(i:Nat)(u:Value):al (w.setCell ⟨g,i,none⟩ u) g t (cs.setIfInBounds i u):=by unfold al at h⊢;simp[World.setCell,Array.getElem?_modify,h]
theorem al.far (h:al w g t cs){p:Addr}(j:g≠p.block)(u:Value):al (w.setCell p u) g t cs:=(pI w p u g j).trans h
theorem al.alloc (h:al w g t cs)(o:Obj):al (w.alloc o) g t cs:=by have:=h.lt;show(w.heap.push o)[g]? =_;rw[Array.getElem?_push,ae (by omega)];exact h
theorem al.drew (h:al w g t cs):al w.drew g t cs:=h
theorem al.kept (h:al w g t cs)(k:aa S w w')(j:S g):al w' g t cs:=(k.block g h.lt j).trans h
theorem al.grown {row:Option Nat}(h:al w g t cs)(j:w.grownBy w' row)(l:some g≠row):al w' g t cs:=(j.block g h.lt l).trans h
theorem al.ne {o:Nat}{C:TypeId}{j:Array Value}(h:al w g t cs)(h':al w o C j)(l:t≠C):g≠o:=by rintro rfl;unfold al at h h';rw[h] at h';injection h' with h';injection h' with _ J;exact l J
end
theorem qH {α:Type}{j lb:List α}{k:Nat}(o:k<j.length)(C:k<lb.length)(h:j.take k=lb.take k):(j.take (k+1)=lb.take (k+1))↔j[k]=lb[k]:=by rw[cU,cU (l:=lb),lG o,lG C,h,List.append_cancel_left_eq];simp only[Option.toList_some,List.cons.injEq,and_true]
def az (N:Nat)(p:Nat→Bool):Array Value:=((List.range N).map fun i=>Value.bool (p i)).toArray
theorem bj {N:Nat}{p:Nat→Bool}{i:Nat}(h:i<N):(az N p)[i]? =some (.bool (p i)):=by simp[az,h]
theorem im (N:Nat)(p:Nat→Bool):(az N p).size=N:=by simp[az]
theorem dg {N:Nat}{p q:Nat→Bool}{i:Nat}{b:Bool}(hi:q i=b)(o:∀j,j<N→j≠i→q j=p j):(az N p).setIfInBounds i (.bool b)=az N q:=by
 apply Array.ext_getElem?;intro j;rw[Array.getElem?_setIfInBounds];by_cases l:j<N
 ·rw[bj l,bj l,im]
  by_cases e:i=j;·subst e;simp[l,hi]
  rw[ae e,o j l (fun x=>e x.symm)]
 have C:(az N p)[j]? =none:=by rw[jK];rw[im];omega
 have J:(az N q)[j]? =none:=by rw[jK];rw[im];omega
 rw[C,J];split;·rw[ae (by rw[im];omega)]
 rfl
abbrev bT (α:Type):=(Nat→Prop)→World→Value→α→Prop
def rQ:bT Int:=fun _ _ c n=>c=.int .i64 n∧(Lit.int .i64 n).wf=true
def xC:bT Bool:=fun _ _ c b=>c=.bool b
def Sl {α:Type}(bw:Nat)(E:bT α):bT (List α):=fun S w v l=>
 ∃a cap,v=.slice a l.length cap∧l.length≤cap∧cap≤maxLen∧l.length*bw≤140737488355328∧∀(i:Nat) (x:α),l[i]? =some x→∃b off c,a=some ⟨b,off,none⟩∧S b∧w.cell? ⟨b,off+i,none⟩=some c∧E S w c x
abbrev aK:=Sl 8 rQ
abbrev gD:=Sl 1 xC
abbrev Rows:=Sl 24 (Sl 8 rQ)
abbrev jE:=Sl 24 (Sl 1 xC)
structure bT.Good {α:Type}(E:bT α):Prop where
 keep:∀ {S w w' c x},aa S w w'→E S w c x→E S w' c x
 wide:∀ {S T:Nat→Prop} {w c x},(∀k,S k→T k)→E S w c x→E T w c x
theorem Jf:bT.Good rQ:=⟨fun _ h=>h,fun _ h=>h⟩
theorem FL:bT.Good xC:=⟨fun _ h=>h,fun _ h=>h⟩
theorem oR {α:Type}{bw:Nat}{E:bT α}(g:bT.Good E):bT.Good (Sl bw E):=by
 constructor;·intro S w w' v l k h;obtain⟨a,cap,o,C,J,R,h⟩:=h;refine⟨a,cap,o,C,J,R,fun i x Y=>?_⟩;obtain⟨b,off,c,e,j,Z,he⟩:=h i x Y;exact⟨b,off,c,e,j,k.cell (p:=⟨b,off+i,none⟩) j Z,g.keep k he⟩
 intro S T w v l k h;obtain⟨a,cap,o,C,J,R,h⟩:=h;refine⟨a,cap,o,C,J,R,fun i x Y=>?_⟩;obtain⟨b,off,c,e,j,Z,he⟩:=h i x Y;exact⟨b,off,c,e,k b j,Z,g.wide k he⟩
theorem ah:bT.Good aK:=oR Jf
theorem cR:bT.Good gD:=oR FL
theorem aq:bT.Good Rows:=oR ah
theorem er:bT.Good jE:=oR cR
theorem rs {n:Int}(h:(Lit.int .i64 n).wf=true): -9223372036854775808≤n∧n≤9223372036854775807:=by simp only[Lit.wf,IntKind.min,IntKind.max,IntKind.signed,IntKind.bits,gE,iH,if_true] at h;omega
theorem Sl.of_blk {α:Type}{bw:Nat}{E:bT α}{S:Nat→Prop}{w:World}{g:Nat}{t:TypeId}{cs:Array Value}{l:List α}{cap:Nat}(h:al w g t cs)(j:S g)(o:l.length≤cap)(C:cap≤maxLen)(J:l.length*bw≤140737488355328)
 (he:∀(i:Nat) (x:α),l[i]? =some x→∃c,cs[i]? =some c∧E S w c x):Sl bw E S w (.slice (some ⟨g,0,none⟩) l.length cap) l:=by
 refine⟨_,_,rfl,o,C,J,fun i x R=>?_⟩;obtain⟨c,Y,Z⟩:=he i x R;exact⟨g,0,c,rfl,j,by rw[cN,h.cell];exact Y,Z⟩
theorem Sl.nil {α:Type}{bw:Nat}{E:bT α}{S:Nat→Prop}{w:World}:Sl bw E S w (.slice none 0 0) []:=by refine⟨none,0,rfl,cf _,Nat.zero_le _,by simp,fun i x j=>?_⟩;simp at j
theorem Sl.of_own {α:Type}{bw:Nat}{E:bT α}{S:Nat→Prop}{w:World}{base:Nat}{e:TypeId}{v:Value}{C:List Value}{l:List α}(h:w.ownsRow base e 1 v l.length C)(J:l.length*bw≤140737488355328)
 (R:∀g,v.ownBlock=some g→S g) (he:∀(i:Nat) (x:α),l[i]? =some x→∃c,C[i]? =some c∧E S w c x):Sl bw E S w v l:=by
 obtain⟨hl,h⟩:=h;rcases h with ⟨rfl,Y⟩|⟨g,cap,cur,rfl,hb,Z,hc,hm,a1,o⟩
 ·have:l=[]:=oD Y
  subst this;exact Sl.nil
 refine⟨_,_,rfl,hc,hm,J,fun i x hx=>?_⟩;obtain⟨c,j,hE⟩:=he i x hx;refine⟨g,0,c,rfl,R g rfl,?_,hE⟩;rw[cN,al.cell (w:=w) (t:=e) (cs:=cur) Z];rw[←o] at j;have hi:i<l.length*1:=by
  rcases Nat.lt_or_ge i (l.length*1) with h|h;·exact h
  rw[jz (by rw[fN];omega)] at j;cases j
 rw[rY hi] at j;simpa using j
theorem aU {w:World}{base:Nat}{e:TypeId}{size n:Nat}{v:Value}{xs:List Value}(h:w.ownsRow base e size v n xs):∃A c,v=.slice A n c:=by
 rcases h.2 with ⟨rfl,rfl⟩|⟨g,cap,cur,rfl,_⟩;·exact⟨_,_,rfl⟩
 exact⟨_,_,rfl⟩
theorem aD {w:World}{base:Nat}{e:TypeId}{size n:Nat}{v:Value}{xs:List Value}(h:w.ownsRow base e size v n xs){g:Nat}(j:v.ownBlock=some g):base≤g∧g<w.heap.size:=by
 rcases h.2 with ⟨rfl,rfl⟩|⟨C,cap,cur,rfl,l,o,_⟩;·cases j
 cases j;exact⟨l,al.lt (w:=w) (t:=e) (cs:=cur) o⟩
theorem be {S:Nat→Prop}{w w':World}{base:Nat}{e:TypeId}{size n:Nat}{v:Value}{xs:List Value}(h:w.ownsRow base e size v n xs)(k:aa S w w')(j:∀g,v.ownBlock=some g→S g):w'.ownsRow base e size v n xs:=by
 refine⟨h.1,?_⟩;rcases h.2 with l|⟨g,cap,cur,rfl,o,C,r⟩;·exact .inl l
 exact .inr ⟨g,cap,cur,rfl,o,al.kept (w:=w) (t:=e) (cs:=cur) C k (j g rfl),r⟩
theorem aa.app {S:Nat→Prop}{a w w':World}{base:Nat}{e:TypeId}{size n:Nat}{v:Value}{xs:List Value}(h:aa S a w)(j:w.ownsRow base e size v n xs)(l:∀g,base≤g→¬S g∨a.heap.size≤g)(g:w.grownBy w' v.ownBlock):aa S a w':=
 h.grown g fun k o=>l k (aD j o).1
section
variable {P:Program} (w:World)
theorem JL (base:Nat)(t ty e:TypeId)(i:TypeInfo)(z:Value)(size bytes:Nat)(ht:P.underlying t=some (.slice e))(hi:P.info? e=some i)(hz:i.zero=some z)
 (C:i.size=size) (Z:i.bytes=bytes) (a1:z.cells.size=size) (a6:0<size)
 (v:Value) (n:Nat) (xs:List Value) (l:w.ownsRow base e size v n xs)
 (A:Option Addr) (m c:Nat) (news:List Value) (hl:news.length=m*size) (hA:0<m→∃b off,A=some ⟨b,off,none⟩∧∀(j:Nat) u,news[j]? =some u→w.cell? ⟨b,off+j,none⟩=some u)
 (h1:∀u∈news,u.oneCell'=true) (a7:n+m≤maxLen) (o:(n+m)*bytes≤140737488355328) (J:base≤w.heap.size):
 ∃Y w',(Builtin.append_ #[t,t] ty #[v,.slice A m c]).run P w=.ok Y w'∧w'.ownsRow base e size Y (n+m) (xs++news)∧w.grownBy w' v.ownBlock∧
  (Y.ownBlock=v.ownBlock∨Y.ownBlock=some w.heap.size):=by
 rcases Nat.eq_zero_or_pos m with h0|h0
 ·subst h0;have hn:news=[]:=oD (by simpa using hl);subst hn;cases A with
  |none=>
   refine⟨v,w,?_,by simpa using l,World.grownBy.refl w _,.inl rfl⟩;rcases l.2 with ⟨rfl,rfl⟩|⟨g,cap,cur,rfl,_,_,a8,_⟩;·simp[Builtin.append_,run_underlying ht,sizeOf,typeInfo,hi,Builtin.lenOf,Builtin.firstCells]
   simp[Builtin.append_,run_underlying ht,sizeOf,typeInfo,hi,Builtin.lenOf,Builtin.firstCells,a8,storeCells]
  |some ad=>obtain⟨Y,w',R,h2,h3,_,h5⟩:=run_append_own_at (P:=P) w base t ty e i z size bytes ht hi hz C Z a1 a6 v n xs l ad 0 c [] (by simp) (fun j u hu=>by simp at hu) h1 a7 o J;exact⟨Y,w',R,h2,h3,h5⟩
 obtain⟨b,off,rfl,hc⟩:=hA h0;obtain⟨Y,w',R,h2,h3,_,h5⟩:=run_append_own_at (P:=P) w base t ty e i z size bytes ht hi hz C Z a1 a6 v n xs l ⟨b,off,none⟩ m c news hl (fun j u hu=>by
  have:=hc j u hu;unfold Addr.add;split;·rename_i h;subst h;exact this
  exact this) h1 a7 o J
 exact⟨Y,w',R,h2,h3,h5⟩
theorem aR {ops:Array Oper}{rest:List Oper}{o:Oper}{a:Act}{Q:Exit→Act→World→Prop}(a1:o.guard=none)(s x:Operand)(t:TypeId)
 (ho:o.op=.call {callee:=.builtin .append,args:=#[s,x],argTypes:=#[t,t]})
 (base:Nat) (e:TypeId) (i:TypeInfo) (z:Value) (size bytes:Nat) (ht:P.underlying t=some (.slice e)) (hi:P.info? e=some i) (hz:i.zero=some z)
 (C:i.size=size) (a6:i.bytes=bytes) (a7:z.cells.size=size) (a8:0<size)
 (v:Value) (n:Nat) (xs:List Value) (hs:a.eval s=v) (Y:w.ownsRow base e size v n xs)
 (A:Option Addr) (m c:Nat) (news:List Value) (hx:a.eval x=.slice A m c) (hl:news.length=m*size) (hA:0<m→∃b off,A=some ⟨b,off,none⟩∧∀(j:Nat) u,news[j]? =some u→w.cell? ⟨b,off+j,none⟩=some u)
 (h1:∀u∈news,u.oneCell'=true) (b0:n+m≤maxLen) (l:(n+m)*bytes≤140737488355328) (J:base≤w.heap.size)
 (h:∀R w',w'.ownsRow base e size R (n+m) (xs++news)→w.grownBy w' v.ownBlock→(R.ownBlock=v.ownBlock∨R.ownBlock=some w.heap.size)→wpList P ops Q rest (a.put o.dst R) w'):wpList P ops Q (o::rest) a w:=by
 refine wpList_plain a1 fun K hK=>?_;obtain⟨R,w',Z,h2,h3,h4⟩:=JL (P:=P) w base t o.type e i z size bytes ht hi hz C a6 a7 a8 v n xs Y A m c news hl hA h1 b0 l J;unfold Oper.wp execOp;simp only[ho,resolve,invoke,builtin,Sem.run_bind,Sem.run_pure,Result.andThen_ok,List.map_toArray,List.map_cons,List.map_nil,hs,hx,Z];exact hK _ _ (h R w' h2 h3 h4)
end
theorem kR {S:Nat→Prop}{w:World}:aa S w w:=aa.refl S w
theorem bT.Good.la {α:Type}{E:bT α}(g:bT.Good E){S:Nat→Prop}{w:World}{v:Value}{x:α}(h:E S w v x):∀wn,aa All w wn→E S wn v x:=fun _ j=>g.keep j.all h
theorem al.c2 {w:World}{g:Nat}{t:TypeId}{a0 j:Value}(h:al w g t #[a0,j]):w.cell? ⟨g,0,none⟩=some a0∧w.cell? ⟨g,1,none⟩=some j:=⟨h.cell 0,h.cell 1⟩
theorem al.c3 {w:World}{g:Nat}{t:TypeId}{a0 j a2:Value}(h:al w g t #[a0,j,a2]):w.cell? ⟨g,0,none⟩=some a0∧w.cell? ⟨g,1,none⟩=some j∧w.cell? ⟨g,2,none⟩=some a2:=⟨h.cell 0,h.cell 1,h.cell 2⟩
theorem al.c4 {w:World}{g:Nat}{t:TypeId}{a0 j a2 a3:Value}(h:al w g t #[a0,j,a2,a3]):w.cell? ⟨g,0,none⟩=some a0∧w.cell? ⟨g,1,none⟩=some j∧w.cell? ⟨g,2,none⟩=some a2∧w.cell? ⟨g,3,none⟩=some a3:=⟨h.cell 0,h.cell 1,h.cell 2,h.cell 3⟩
theorem al.c5 {w:World}{g:Nat}{t:TypeId}{a0 j a2 a3 a4:Value}(h:al w g t #[a0,j,a2,a3,a4]):w.cell? ⟨g,0,none⟩=some a0∧w.cell? ⟨g,1,none⟩=some j∧w.cell? ⟨g,2,none⟩=some a2∧w.cell? ⟨g,3,none⟩=some a3∧w.cell? ⟨g,4,none⟩=some a4:=⟨h.cell 0,h.cell 1,h.cell 2,h.cell 3,h.cell 4⟩
theorem al.c6 {w:World}{g:Nat}{t:TypeId}{a0 j a2 a3 a4 a5:Value}(h:al w g t #[a0,j,a2,a3,a4,a5]):w.cell? ⟨g,0,none⟩=some a0∧w.cell? ⟨g,1,none⟩=some j∧w.cell? ⟨g,2,none⟩=some a2∧w.cell? ⟨g,3,none⟩=some a3∧w.cell? ⟨g,4,none⟩=some a4∧w.cell? ⟨g,5,none⟩=some a5:=⟨h.cell 0,h.cell 1,h.cell 2,h.cell 3,h.cell 4,h.cell 5⟩
theorem al.c7 {w:World}{g:Nat}{t:TypeId}{a0 j a2 a3 a4 a5 l:Value}(h:al w g t #[a0,j,a2,a3,a4,a5,l]):w.cell? ⟨g,0,none⟩=some a0∧w.cell? ⟨g,1,none⟩=some j∧w.cell? ⟨g,2,none⟩=some a2∧w.cell? ⟨g,3,none⟩=some a3∧w.cell? ⟨g,4,none⟩=some a4∧w.cell? ⟨g,5,none⟩=some a5∧w.cell? ⟨g,6,none⟩=some l:=⟨h.cell 0,h.cell 1,h.cell 2,h.cell 3,h.cell 4,h.cell 5,h.cell 6⟩
theorem al.c8 {w:World}{g:Nat}{t:TypeId}{a0 j a2 a3 a4 a5 l o:Value}(h:al w g t #[a0,j,a2,a3,a4,a5,l,o]):w.cell? ⟨g,0,none⟩=some a0∧w.cell? ⟨g,1,none⟩=some j∧w.cell? ⟨g,2,none⟩=some a2∧w.cell? ⟨g,3,none⟩=some a3∧w.cell? ⟨g,4,none⟩=some a4∧w.cell? ⟨g,5,none⟩=some a5∧w.cell? ⟨g,6,none⟩=some l∧w.cell? ⟨g,7,none⟩=some o:=⟨h.cell 0,h.cell 1,h.cell 2,h.cell 3,h.cell 4,h.cell 5,h.cell 6,h.cell 7⟩
theorem al.c9 {w:World}{g:Nat}{t:TypeId}{a0 j a2 a3 a4 a5 l o C:Value}(h:al w g t #[a0,j,a2,a3,a4,a5,l,o,C]):w.cell? ⟨g,0,none⟩=some a0∧w.cell? ⟨g,1,none⟩=some j∧w.cell? ⟨g,2,none⟩=some a2∧w.cell? ⟨g,3,none⟩=some a3∧w.cell? ⟨g,4,none⟩=some a4∧w.cell? ⟨g,5,none⟩=some a5∧w.cell? ⟨g,6,none⟩=some l∧w.cell? ⟨g,7,none⟩=some o∧w.cell? ⟨g,8,none⟩=some C:=⟨h.cell 0,h.cell 1,h.cell 2,h.cell 3,h.cell 4,h.cell 5,h.cell 6,h.cell 7,h.cell 8⟩
end
section
def eV (n:Nat)(row:List Int):Prop:=(∀k∈row,0≤k∧k<n)∧row.Nodup
def aP (ll:List (List Int)):Prop:=1≤ll.length∧ll.length≤256∧∀row∈ll,eV ll.length row
instance (n:Nat) (row:List Int):Decidable (eV n row):=by unfold eV;infer_instance
instance (ll:List (List Int)):Decidable (aP ll):=by unfold aP;infer_instance
theorem tG {n m:Nat}{row:List Int}(hm:m<row.length)(h:eV n (row.take m)):eV n (row.take (m+1))↔(0≤row[m]∧row[m]<n)∧row[m]∉row.take m:=by
 have e:row.take (m+1)=row.take m++[row[m]]:=by rw[cU,lG hm];rfl
 unfold eV at*;rw[e];simp only[eD,cx,List.nodup_append,List.nodup_cons,List.not_mem_nil,not_false_eq_true,List.nodup_nil,true_and];constructor
 ·rintro⟨j,C,J⟩
  exact⟨j _ (.inr rfl),fun R=>J _ R _ rfl rfl⟩
 rintro⟨j,C⟩;refine⟨fun k l=>?_,h.2,fun a Y b Z o=>?_⟩
 ·rcases l with l|rfl
  ·exact h.1 k l
  exact j
 exact C (Z▸o▸Y)
theorem tH {n m:Nat}{row:List Int}(h:eV n row):eV n (row.take m):=
 ⟨fun k j=>h.1 k (List.mem_of_mem_take j),h.2.sublist (List.take_sublist _ _)⟩
theorem xK {ll:List (List Int)}{p:List Int→Prop}{k:Nat}(l:k<ll.length)(h:∀row∈ll.take k,p row)(o:p ll[k]):∀row∈ll.take (k+1),p row:=by
 have e:ll.take (k+1)=ll.take k++[ll[k]]:=by rw[cU,lG l];rfl
 rw[e];intro row j;rcases eD.1 j with j|j;·exact h row j
 rw[cx.1 j];exact o
def tY:Array Value:=az 256 fun _=>false
theorem Sw:Tryz.zeroCells85=tY:=by kernel_rfl
attribute [local go_sem] Sw
theorem gt (S:Nat→Prop)(v:Value)(ll:List (List Int))(w:World)(hv:Rows S w v ll):
 Calls prog 20 #[v] w fun e w'=>e=.returned (.bool (decide (aP ll)))∧aa All w w':=by
 obtain⟨a,cap,rfl,h1,h2,_,h⟩:=hv;unfold maxLen at h2;have H:=oH h;have hl:ll.length≤9223372036854775807:=by omega
 clear h h1 h2;by_cases e5:ll.length<1;·(
 have hR:¬aP ll:=fun h=>by have:=h.1;omega
 rw[cI hR];go_enter func20,ntmps20;go_wp2
 go_step3
 go_wp2
 (first|go_ret|(rw[Exit.noGoto_ret];go_ret))
 exact⟨rfl,kR⟩)
 by_cases e6:256<ll.length;·(
 have hR:¬aP ll:=fun h=>by have:=h.2.1;omega
 rw[cI hR];go_enter func20,ntmps20;go_wp2
 go_step3
 go_wp2
 (first|go_ret|(rw[Exit.noGoto_ret];go_ret))
 exact⟨rfl,kR⟩)
 have d1:decide ((ll.length:Int)<1)=false:=by simp;omega
 have d2:decide ((256:Int)<(ll.length:Int))=false:=by simp;omega
 have e7:ll.length≤256:=by omega
 go_enter func20,ntmps20;go_wp2
 go_step3
 go_wp2
 go_step3
 go_wp2;go_loopg [18] ll.length (fun g i wr=>∃k:Nat,k≤ll.length∧g=ll.length-k∧i=.int .i64 k∧(∀row∈ll.take k,eV ll.length row)∧aa All w wr);·exact⟨0,by omega,by omega,rfl,by simp,kR⟩
 obtain⟨k,hk,rfl,rfl,Y,o⟩:=hrel;by_cases b7:k<ll.length;·(
 obtain⟨b1,o1,c1,rfl,e8,b9,he⟩:=H.out k ll[k] (lG b7);obtain⟨ra,e4,rfl,r1,r2,_,rh⟩:=he;have d9:=o.cell (p:=⟨b1,o1+k,none⟩) trivial b9;have RH:=oH rh;have Z:eV ll.length ll[k]→∀row∈ll.take (k+1),eV ll.length row:=fun h=>xK b7 Y h;have b3:¬eV ll.length ll[k]→¬aP ll:=fun h h'=>h (h'.2.2 _ (eL b7));have a1:=oH Z;have c0:=oH b3;unfold maxLen at r2;have hr:ll[k].length≤9223372036854775807:=by omega
 clear b9 rh Y Z b3 r1 r2;generalize ll[k]=row at*;go_wp2;have hB:w.heap.size≤wr.heap.size:=o.size;have c3:aa All w (wr.alloc (.cells tY 85)):=o.alloc _;have c4:al (wr.alloc (.cells tY 85)) wr.heap.size 85 tY:=al.new _ _ _;obtain⟨wo,rfl⟩:=eQ wr;go_loopg [24] row.length (fun g i wr=>∃m:Nat,m≤row.length∧g=row.length-m∧i=.int .i64 m∧eV ll.length (row.take m)∧aa All w wr∧al wr wo.heap.size 85 (az 256 fun x=>decide ((x:Int)∈row.take m)));·exact⟨0,by omega,by omega,rfl,⟨by simp,by simp⟩,c3,by simpa [tY] using c4⟩
 obtain⟨m,hm,rfl,rfl,C,l,a6⟩:=hrel;clear d9 c3 c4;by_cases a7:m<row.length;·(
 obtain⟨b2,o2,c2,rfl,e9,c5,rfl,e0⟩:=RH.out m row[m] (lG a7);have h0:=l.cell (p:=⟨b2,o2+m,none⟩) trivial c5;have c6:=tG a7 C;have c7:row.take (m+1)=row.take m++[row[m]]:=by rw[cU,lG a7];rfl
 have c8:eV ll.length row→eV ll.length (row.take (m+1)):=tH;have HF:=J3 c6 c7 c8;clear c6 c7 c8 c5;obtain⟨y1,y2⟩:=rs e0;generalize row[m]=y at*;have a8:¬((0≤y∧y<(ll.length:Int))∧y∉row.take m)→¬aP ll:=fun h=>c0.out fun hr=>h (HF.1.1 (HF.2.2 hr));have J:=oH a8;have b4:=oH C;clear a8 C;have b8:decide ((m:Int)=(row.length:Int)-1)=decide (m+1=row.length):=by rw[decide_eq_decide];omega
 clear b8;by_cases h3:y<0
 ·go_wp2
  (first|go_ret|(rw[Exit.noGoto_ret];go_ret))
  exact⟨by rw[cI (J.out (by omega))];rfl,l⟩
 by_cases h4:(ll.length:Int)≤y
 ·go_wp2
  (first|go_ret|(rw[Exit.noGoto_ret];go_ret))
  exact⟨by rw[cI (J.out (by omega))];rfl,l⟩
 obtain⟨q,rfl⟩:∃q:Nat,y=q:=⟨y.toNat,by omega⟩;have hq:q<256:=by omega
 have b0:wr.cell? ⟨wo.heap.size,q,none⟩=some (.bool (decide ((q:Int)∈row.take m))):=by rw[a6.cell,bj hq]
 have e1:=a6.free q;by_cases R:(q:Int)∈row.take m
 ·rw[bL R] at b0;have c9:=oH R;clear R;go_wp2
  (first|go_ret|(rw[Exit.noGoto_ret];go_ret))
  exact⟨by rw[cI (J.out (fun h=>h.2 c9.out))];rfl,l⟩
 rw[cI R] at b0;have b5:eV ll.length (row.take (m+1)):=HF.1.2 ⟨by omega,R⟩;have c9:=oH R;have b6:=oH b5;clear R b5;by_cases hl:m+1=row.length
 ·have e2:((m:Int)==(row.length:Int)-1)=true:=by rw[cy];omega
  have Hl:=oH hl;clear hl;go_wp2;go_roundg (ll.length-(k+1));·exact⟨k+1,by omega,rfl,by go_num,a1.out (by have:=b6.out;rwa [Hl.out,dZ] at this),l⟩
  omega
 have e2:((m:Int)==(row.length:Int)-1)=false:=by rw[bE];omega
 have Hl:=oH hl;clear hl;go_wp2;go_roundg (row.length-(m+1))
 case measure=>omega
 case rel=>exact⟨m+1,by omega,rfl,by go_num,b6.out,l.setCell (p:=⟨wo.heap.size,q,none⟩) (.inr hB) _,by
  rw[←dg (p:=fun x=>decide ((x:Int)∈row.take m)) (i:=q) (b:=true)];·exact a6.set q _
  ·rw[HF.2.1];simp
  intro j _ hj;have:¬(j:Int)=(q:Int):=by omega
  rw[HF.2.1];simp[this]⟩)
 have d7:m=row.length:=by omega
 have b4:=oH C;have e3:=oH d7;clear C d7;go_wp2;go_roundg (ll.length-(k+1));·exact⟨k+1,by omega,rfl,by go_num,a1.out (by have:=b4.out;rwa [e3.out,dZ] at this),l⟩
 omega)
 have d8:k=ll.length:=by omega
 have hR:aP ll:=⟨by omega,by omega,by rw[d8,dZ] at Y;exact Y⟩;have HR:=oH hR;clear hR Y d8;go_wp2
 (first|go_ret|(rw[Exit.noGoto_ret];go_ret))
 exact⟨by rw[bL HR.out];rfl,o⟩
end
theorem Dx (n:Nat):∀(row:List Int),(∀k∈row,0≤k∧k<n)→row.Nodup→row.length≤n:=by
 induction n with
 |zero=>intro row h _;cases row with
        |nil=>simp
        |cons x l=>have:=h x (by simp);omega
 |succ n C=>
  intro row h o;by_cases hm:(n:Int)∈row;·have R:=C (row.erase n) (fun k j=>by have J:=(List.Nodup.mem_erase_iff o).1 j;have:=h k J.2;have:k≠n:=J.1;omega) (o.erase _);have:=List.length_erase_of_mem hm;omega
  have:=C row (fun k j=>by have R:=h k j;have:k≠n:=fun e=>hm (e▸j);omega) o;omega
theorem du {row:List Int}{n:Nat}(h:eV n row):row.length≤n:=Dx n row h.1 h.2
theorem zp (S T:Nat→Prop)(va vb:Value)(o lb:List (List Int))(w:World)(ha:Rows S w va o)(hb:Rows T w vb lb):
 Calls prog 10 #[va,vb] w fun e w'=>e=.returned (.bool (decide (o=lb)))∧aa All w w':=by
 obtain⟨a,cap,rfl,h1,h2,_,h⟩:=ha;obtain⟨b,e8,rfl,h3,h4,_,h'⟩:=hb;unfold maxLen at h2 h4;have hl:o.length≤9223372036854775807:=by omega
 have h5:lb.length≤9223372036854775807:=by omega
 have H:=oH h;have H':=oH h';clear h h' h1 h2 h3 h4;by_cases l:o.length=lb.length;·(
 have Y:=oH l;have h6:o.length≤lb.length:=by omega
 have e3:(o.length !=lb.length)=false:=by simpa using l
 clear l;go_enter func10,ntmps10;go_wp2;go_loopg [5] o.length (fun g i wr=>∃k:Nat,k≤o.length∧g=o.length-k∧i=.int .i64 k∧o.take k=lb.take k∧aa All w wr);·exact⟨0,by omega,by omega,rfl,by simp,kR⟩
 obtain⟨k,hk,rfl,rfl,a6,C⟩:=hrel;by_cases c5:k<o.length;·(
 have a8:k<lb.length:=by omega
 obtain⟨b1,o1,c1,rfl,h7,b7,ra,e9,rfl,r1,r2,_,rh⟩:=H.out k o[k] (lG c5);obtain⟨b2,o2,c2,rfl,h8,b8,rb,e4,rfl,r3,r4,_,c6⟩:=H'.out k lb[k] (lG a8);have c7:=C.cell (p:=⟨b1,o1+k,none⟩) trivial b7;have c8:=C.cell (p:=⟨b2,o2+k,none⟩) trivial b8;have c9:=qH c5 a8 a6;have b0:o[k]≠lb[k]→o≠lb:=fun h e=>h (by subst e;rfl);have HF:=J2 c9 b0;have RH:=oH rh;have e5:=oH c6;have e6:=oH b7;have e7:=oH b8;unfold maxLen at r2 r4;have hr:o[k].length≤9223372036854775807:=by omega
 have h9:lb[k].length≤9223372036854775807:=by omega
 clear b7 b8 a6 c9 b0 rh c6 r1 r2 r3 r4;generalize o[k]=x at*;generalize lb[k]=y at*;by_cases a7:x.length=y.length;·(
 have b9:=oH a7;have h0:x.length≤y.length:=by omega
 have d7:((x.length:Int) !=(y.length:Int))=false:=by rw[gj];omega
 clear a7;go_wp2;go_quiet (fail);go_wp2;go_loopg [6] x.length (fun g i wr=>∃m:Nat,m≤x.length∧g=x.length-m∧i=.int .i64 m∧x.take m=y.take m∧aa All w wr);·exact⟨0,by omega,by omega,rfl,by simp,by repeat(first|assumption|apply aa.drewN|apply aa.drew)⟩
 clear c7 c8 C;obtain⟨m,hm,rfl,rfl,J,j⟩:=hrel;have c7:=j.cell (p:=⟨b1,o1+k,none⟩) trivial e6.out;have c8:=j.cell (p:=⟨b2,o2+k,none⟩) trivial e7.out;by_cases b5:m<x.length;·(
 have Z:m<y.length:=by omega
 obtain⟨b3,o3,c3,rfl,i0,d8,rfl,i1⟩:=RH.out m x[m] (lG b5);obtain⟨b4,o4,c4,rfl,i2,d9,rfl,i4⟩:=e5.out m y[m] (lG Z);have i5:=j.cell (p:=⟨b3,o3+m,none⟩) trivial d8;have i6:=j.cell (p:=⟨b4,o4+m,none⟩) trivial d9;have b6:=qH b5 Z J;have a1:x[m]≠y[m]→x≠y:=fun h e=>h (by subst e;rfl);have HG:=J2 b6 a1;clear d8 d9 J b6 a1;generalize x[m]=p at*;generalize y[m]=q at*;by_cases R:p=q
 ·have e0:(p !=q)=false:=by simpa using R
  have c0:=oH R;clear R;go_wp2;go_quiet (fail);go_wp2;go_roundg (x.length-(m+1));·exact⟨m+1,by omega,rfl,by go_num,HG.1.2 c0.out,by repeat(first|assumption|apply aa.drewN|apply aa.drew)⟩
  omega
 have e0:(p !=q)=true:=by simpa using R
 have c0:=oH R;clear R;go_wp2;go_quiet (fail);go_wp2;go_ret;exact⟨by rw[cI (HF.2 (HG.2 c0.out))];rfl,by repeat(first|assumption|apply aa.drewN|apply aa.drew)⟩)
 have e1:m=x.length:=by omega
 have HG:=J2 J e1;clear J e1;go_wp2;go_roundg (o.length-(k+1));·exact⟨k+1,by omega,rfl,by go_num,HF.1.2 (by have:=HG.1;rwa [HG.2,dZ,b9.out,dZ] at this),j⟩
 omega)
 have d7:((x.length:Int) !=(y.length:Int))=true:=by rw[bne_iff_ne];omega
 have b9:=oH a7;clear a7;go_wp2;go_quiet (fail);go_wp2;go_ret;exact⟨by rw[cI (HF.2 fun e=>b9.out (by rw[e]))];rfl,by repeat(first|assumption|apply aa.drewN|apply aa.drew)⟩)
 have e2:k=o.length:=by omega
 have HF:=J2 a6 e2;clear a6 e2;go_wp2;go_ret;exact⟨by have:=HF.1;rw[HF.2,dZ,Y.out,dZ] at this;simp[this],C⟩)
 have e3:(o.length !=lb.length)=true:=by simpa using l
 have Y:=oH l;clear l;go_enter func10,ntmps10;go_wp2;go_ret;exact⟨by rw[cI (fun e=>Y.out (by rw[e]))];rfl,kR⟩
theorem yw:(prog.info? 3).map (fun i=>(i.zero,i.size,i.bytes))=some (some (.int .i64 0),1,8):=by kernel_rfl
theorem Qr:(prog.info? 45).map (fun i=>(i.zero,i.size,i.bytes))=some (some (.slice none 0 0),1,24):=by kernel_rfl
def aI (l:List Int):List Value:=l.map fun x=>Value.int .i64 x
theorem jr {S:Nat→Prop}{w:World}{base:Nat}{e:TypeId}{v:Value}{n:Nat}{l:List Int}(h:w.ownsRow base e 1 v n (aI l))(o:n=l.length)(C:l.length*8≤140737488355328)
 (J:∀g,v.ownBlock=some g→S g) (hw:∀x∈l,(Lit.int .i64 x).wf=true):aK S w v l:=by
 subst o;refine Sl.of_own h C J (fun i x j=>⟨.int .i64 x,by simp[aI,j],rfl,hw x (mG j)⟩)
theorem Jq {S:Nat→Prop}{w:World}{v:Value}{l:List Int}(h:aK S w v l):∀x∈l,(Lit.int .i64 x).wf=true:=by obtain⟨a,cap,o,C,J,_,h⟩:=h;intro x j;obtain⟨i,hi,rfl⟩:=List.getElem_of_mem j;obtain⟨_,_,_,_,_,_,_,hw⟩:=h i _ (lG hi);exact hw
end Go.Proofs.YtncdbjponknakaaGreatDoor
