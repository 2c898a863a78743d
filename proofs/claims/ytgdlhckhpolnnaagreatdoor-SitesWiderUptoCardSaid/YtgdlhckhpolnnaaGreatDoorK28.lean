/- Part 29 of the proof (its last part says what is proved). No condition. -/
import Derived.Test.YtgdlhckhpolnnaaGreatDoorK25
import Derived.Test.YtgdlhckhpolnnaaGreatDoorK27
namespace Go.Proofs.YtgdlhckhpolnnaaGreatDoor
set_option maxRecDepth 100000
set_option maxHeartbeats 8000000
open Go.RowKit Go.Proofs.Tryz
structure cr.Ok (p:cr):Prop where
 size:p.s.size≤65536
 len:p.l.length≤65537
 tok:∀t∈p.l,t.beg≤t.fin∧t.fin≤p.s.size∧t.kind<256
 plain:Ab p.s=true
 word:∀t∈p.l,t.kind=1→jv (p.s.extract t.beg t.fin)=false
structure Uo (w:World)(pb:Nat)(p:cr)(A:Option Addr)(C:Nat)(k m:Nat):Prop where
 box:al w pb 102 #[.string p.s,.slice A p.l.length C,.int .i64 k,.int .i64 m]
 toks:WG (fun b=>b≠pb∧b<w.heap.size) w (.slice A p.l.length C) p.l
 le:k≤p.l.length
theorem Uo.keep {w w':World}{pb:Nat}{p:cr}{A:Option Addr}{C k m:Nat}(h:Uo w pb p A C k m)(j:aa All w w'):Uo w' pb p A C k m:=
 ⟨h.box.kept j trivial,cu.wide (fun b o=>⟨o.1,by have:=j.size;omega⟩) (cu.keep j.all h.toks),h.le⟩
theorem Uo.move {w:World}{pb:Nat}{p:cr}{A:Option Addr}{C k m:Nat}(h:Uo w pb p A C k m){k':Nat}(o:k'≤p.l.length):Uo (w.setCell ⟨pb,2,none⟩ (.int .i64 k')) pb p A C k' m:=
 ⟨by simpa using h.box.set 2 (.int .i64 k'),cu.wide (fun b j=>⟨j.1,by simpa using j.2⟩) (cu.keep ((aa.refl (fun b=>b≠pb∧b<w.heap.size) w).setCell (.inl fun h=>h.1 rfl) _) h.toks),o⟩
theorem xt (pb:Nat)(p:cr)(A:Option Addr)(C k m a:Nat)(w:World)(h:Uo w pb p A C k m)(I:p.Ok)(ha:a≤10):
 Calls prog 40 #[.pointer (some ⟨pb,0,none⟩),.int .i64 a] w fun e w'=>e=.returned (.string (p.txt (k+a)))∧aa All w w':=by
 obtain⟨b0,b1,b2⟩:=h.box.c3;have hle:=h.le;have hlen:=I.len;obtain⟨n,o⟩:=eQ p.l.length;have a1:n≤p.l.length:=eE o;have a6:p.l.length≤n:=eE o.symm;by_cases a7:k+a<n
 ·obtain⟨t,J⟩:∃t,p.l[k+a]? =some t:=⟨_,lG (by omega)⟩;obtain⟨tb,a8,b3,rfl,_,_,R,hE⟩:=aZ h.toks J;cases hE;have c1:=R 1 _ rfl;have c2:=R 2 _ rfl;have Y:=I.tok t (mG J);have j:p.txt (k+a)=p.s.extract t.beg t.fin:=by unfold cr.txt;rw[J]
  have HT:=oH j;have v1:=Y.1;have v2:=Y.2.1;rw[←o] at b1;clear R J h I Y j o;go_enter func40,ntmps40;go_wp2_with fail;go_quiet (fail);go_wp2_with fail;go_ret;exact⟨by rw[HT.out];rfl,kR.drewN _⟩
 have j:p.txt (k+a)=gR:=by unfold cr.txt;rw[jz (by omega)]
 have HT:=oH j;rw[←o] at b1;clear h I j o;go_enter func40,ntmps40;go_wp2_with fail;go_ret;exact⟨by rw[HT.out];rfl,kR⟩
theorem Vv (pb:Nat)(p:cr)(A:Option Addr)(C k m:Nat)(w:World)(h:Uo w pb p A C k m)(I:p.Ok):
 Calls prog 79 #[.pointer (some ⟨pb,0,none⟩)] w fun e w'=>e=.returned (.int .i64 (p.pos k))∧aa All w w':=by
 obtain⟨b0,Y,b2⟩:=h.box.c3;have hle:=h.le;have hlen:=I.len;obtain⟨n,o⟩:=eQ p.l.length;have a1:n≤p.l.length:=eE o;have a6:p.l.length≤n:=eE o.symm;by_cases a7:k<n
 ·obtain⟨t,J⟩:∃t,p.l[k]? =some t:=⟨_,lG (by omega)⟩;obtain⟨tb,a8,b3,rfl,_,_,hc,hE⟩:=aZ h.toks J;cases hE;have c1:=hc 1 _ rfl;have j:p.pos k=t.beg:=by unfold cr.pos;rw[J]
  have R:=oH j;rw[←o] at Y;clear hc J h I j o;go_enter func79,ntmps79;go_wp2_with fail;go_quiet (fail);go_wp2_with fail;go_quiet (fail);go_wp2_with fail;go_ret;exact⟨by rw[R.out];rfl,((kR.drewN _).drewN _)⟩
 have j:p.pos k=p.s.size:=by unfold cr.pos;rw[jz (by omega)]
 have R:=oH j;rw[←o] at Y;clear h I j o;go_enter func79,ntmps79;go_wp2_with fail;go_quiet (fail);go_wp2_with fail;go_ret;exact⟨by rw[R.out];rfl,kR.drewN _⟩
theorem TC (pb:Nat)(p:cr)(A:Option Addr)(C k m q:Nat)(w:World)(h:Uo w pb p A C k m)(J:p.Ok):
 Calls prog 81 #[.pointer (some ⟨pb,0,none⟩),.int .u8 q] w fun e w'=>e=.returned (.bool (p.is k q))∧aa All w w':=by
 obtain⟨b0,b1,b2⟩:=h.box.c3;have hle:=h.le;have hlen:=J.len;obtain⟨n,o⟩:=eQ p.l.length;have a1:n≤p.l.length:=eE o;have a6:p.l.length≤n:=eE o.symm;by_cases I:k<n
 ·obtain⟨t,R⟩:∃t,p.l[k]? =some t:=⟨_,lG (by omega)⟩;obtain⟨tb,a7,a8,rfl,_,_,hc,hE⟩:=aZ h.toks R;cases hE;have c0:=hc 0 _ rfl;rw[dj] at c0;have j:p.is k q=(t.kind==q):=by unfold cr.is;rw[R]
  have Y:=oH j;have hd:decide ((k:Int)<(n:Int))=true:=by simpa using I
  rw[←o] at b1;clear hc R h J j o;go_enter func81,ntmps81;go_wp2_with fail;go_quiet (fail);go_wp2_with fail;go_ret;exact⟨by rw[Y.out,show(t.kind==q)=((t.kind:Int)==(q:Int)) by rw[Bool.eq_iff_iff,cy,cy];omega];rfl,kR.drewN _⟩
 have j:p.is k q=false:=by unfold cr.is;rw[jz (by omega)]
 have Y:=oH j;have hd:decide ((k:Int)<(n:Int))=false:=by simpa using I
 rw[←o] at b1;clear h J j o;go_enter func81,ntmps81;go_wp2_with fail;go_quiet (fail);go_wp2_with fail;go_ret;exact⟨by rw[Y.out];rfl,kR.drewN _⟩
theorem To (pb n q:Nat)(w:World)(j:n<q):
 Calls prog 41 #[.pointer (some ⟨pb,0,none⟩),.int .i64 n,.int .i64 q] w fun e w'=>e=.returned (.tuple #[])∧w=w':=by
 go_enter func41,ntmps41;go_wp2
 go_end0
 exact⟨rfl,rfl⟩
def wi (pb:Nat)(p:cr)(A:Option Addr)(C k' m:Nat)(w w':World):Prop:=aa (fun b=>b≠pb) w w'∧Uo w' pb p A C k' m
theorem wi.of {pb:Nat}{p:cr}{A:Option Addr}{C k m:Nat}{w j:World}(h:Uo j pb p A C k m)(I:aa (fun b=>b≠pb) w j){k':Nat}(o:k'≤p.l.length):wi pb p A C k' m w (j.setCell ⟨pb,2,none⟩ (.int .i64 k')):=
 ⟨I.setCell (.inl fun h=>h rfl) _,h.move o⟩
theorem TY (x:ByteArray)(l:List UInt8)(y:ByteArray)(h:y.toList=l):(x.toList==l)=decide (x=y):=by rw[Bool.eq_iff_iff,decide_eq_true_iff,←h];exact cM
theorem Xm {p:cr}{k q:Nat}(h:p.is k q=true):k<p.l.length:=by
 unfold cr.is at h;cases j:p.l[k]? with
 |none=>rw[j] at h;cases h
 |some t=>exact(lS.1 j).1
theorem TM {p:cr}{k:Nat}(h:p.txt k≠gR):k<p.l.length:=by
 unfold cr.txt at h;cases j:p.l[k]? with
 |none=>rw[j] at h;exact absurd rfl h
 |some t=>exact(lS.1 j).1
theorem Vi (pb:Nat)(p:cr)(A:Option Addr)(C k m q:Nat)(w:World)(h:Uo w pb p A C k m)(Y:p.Ok)(hq:p.is k q=true):
 Calls prog 146 #[.pointer (some ⟨pb,0,none⟩),.int .u8 q] w fun e w'=>e=.returned (.string (p.txt k))∧wi pb p A C (k+1) m w w':=by
 have HI:=oH (TC pb p A C k m q w h Y);have HT:=oH (fun R (hk:aa All w R)=>xt pb p A C k m 0 R (h.keep hk) Y (by omega));have a1:=Xm hq;have hlen:=Y.len;have H:=oH h;have HQ:=oH hq;clear h hq;go_enter func146,ntmps146;go_wp2_with fail;refine HI.out.mono ?_;rintro e R ⟨rfl,o⟩;rw[HQ.out];have I:=oH o;clear o;go_wp2_with fail;refine(HT.out R I.out).mono ?_;rintro e w2 ⟨rfl,J⟩;have j:=oH (I.out.trans J);clear J;have hb:=(H.out.keep j.out).box;have b2:=hb.cl 2;have f2:=hb.free 2;clear hb;go_wp2_with fail;go_ret;exact⟨rfl,by simpa using wi.of (H.out.keep j.out) j.out.all (k':=k+1) (by omega)⟩
theorem xi (pb:Nat)(p:cr)(A:Option Addr)(C k m:Nat)(w:World)(h:Uo w pb p A C k m)(I:p.Ok)(J:p.is k 1=true):
 Calls prog 80 #[.pointer (some ⟨pb,0,none⟩)] w fun e w'=>e=.returned (.string (p.txt k))∧wi pb p A C (k+1) m w w':=by
 have R:=oH (Vi pb p A C k m 1 w h I J);go_enter func80,ntmps80;go_wp2_with fail;refine R.out.mono ?_;rintro e Y ⟨rfl,j⟩;have o:=oH j;clear j;go_wp2_with fail;go_ret;exact⟨rfl,o.out⟩
theorem Ar (pb:Nat)(p:cr)(A:Option Addr)(C k m:Nat)(s:ByteArray)(w:World)(h:Uo w pb p A C k m)(R:p.Ok)(I:p.txt k=s)(Y:s≠gR):
 Calls prog 84 #[.pointer (some ⟨pb,0,none⟩),.string s] w fun e w'=>e=.returned (.tuple #[])∧wi pb p A C (k+1) m w w':=by
 have HT:=oH (xt pb p A C k m 0 w h R (by omega));have a1:=TM (p:=p) (k:=k) (by rw[I];exact Y);have hlen:=R.len;have H:=oH h;have HQ:=oH I;clear h I Y;go_enter func84,ntmps84;go_wp2_with fail;refine HT.out.mono ?_;rintro e w1 ⟨rfl,o⟩;rw[dj,HQ.out];have j:=oH o;clear o;have J:=(H.out.keep j.out).box;have b2:=J.cl 2;have f2:=J.free 2;clear J;go_wp2_with fail
 go_end0
 exact⟨rfl,by simpa using wi.of (H.out.keep j.out) j.out.all (k':=k+1) (by omega)⟩
theorem TX (pb:Nat)(p:cr)(A:Option Addr)(C k m:Nat)(w:World)(h:Uo w pb p A C k m)(hp:p.Ok):
 Calls prog 86 #[.pointer (some ⟨pb,0,none⟩)] w fun e w'=>e=.returned (.bool (Tp p k))∧aa All w w':=by
 have R:=oH (TC pb p A C k m 1 w h hp);have HT:=oH (fun I (hk:aa All w I)=>xt pb p A C k m 1 I (h.keep hk) hp (by omega));unfold Tp;cases Y:p.is k 1 with
 |false=>rw[Y] at R;clear Y;go_enter func86,ntmps86;go_wp2_with fail;refine R.out.mono ?_;rintro e I ⟨rfl,j⟩;have o:=oH j;clear j;go_wp2_with fail;go_ret;exact⟨rfl,o.out⟩
 |true=>rw[Y] at R;clear Y;go_enter func86,ntmps86;go_wp2_with fail;refine R.out.mono ?_;rintro e I ⟨rfl,j⟩;have o:=oH j;clear j;go_wp2_with fail;refine(HT.out I o.out).mono ?_;rintro e w2 ⟨rfl,J⟩;have a1:=oH (o.out.trans J);clear J;go_wp2_with fail;go_ret;exact⟨by rw[Bool.true_and,←TY (p.txt (k+1)) [58] XW (by kernel_rfl)];rfl,a1.out⟩
section
structure PB (w:World)(B pb:Nat)(p:cr)(A:Option Addr)(C k m:Nat):Prop where
 box:al w pb 102 #[.string p.s,.slice A p.l.length C,.int .i64 k,.int .i64 m]
 toks:WG (fun b=>b≠pb∧b<B) w (.slice A p.l.length C) p.l
 low:pb<B
 size:B≤w.heap.size
 le:k≤p.l.length
theorem PB.pat {w:World}{B pb:Nat}{p:cr}{A:Option Addr}{C k m:Nat}(h:PB w B pb p A C k m):Uo w pb p A C k m:=
 ⟨h.box,cu.wide (fun b j=>⟨j.1,by have:=h.size;omega⟩) h.toks,h.le⟩
theorem Uo.pb {w:World}{pb:Nat}{p:cr}{A:Option Addr}{C k m:Nat}(h:Uo w pb p A C k m):PB w w.heap.size pb p A C k m:=
 ⟨h.box,h.toks,h.box.lt,cf _,h.le⟩
theorem PB.moved {w w':World}{B pb:Nat}{p:cr}{A:Option Addr}{C k k' m j:Nat}(h:PB w B pb p A C k m)(hm:wi pb p A C k' j w w'):PB w' B pb p A C k' j:=
 ⟨hm.2.box,cu.keep (hm.1.mono fun _ o=>o.1) h.toks,h.low,fR h.size hm.1.size,hm.2.le⟩
theorem PB.kept {w w':World}{B pb:Nat}{p:cr}{A:Option Addr}{C k m:Nat}{S:Nat→Prop}(h:PB w B pb p A C k m)(j:aa S w w')(o:∀b,b<B→S b):PB w' B pb p A C k m:=
 ⟨h.box.kept j (o _ h.low),cu.keep (j.mono fun _ I=>o _ I.2) h.toks,h.low,fR h.size j.size,h.le⟩
def Wm (pb B i:Nat):Prop:=i≠pb∧i<B
abbrev Tx (B:Nat)(w:World)(v:Value)(l:List ByteArray):Prop:=w.ownsRow B 9 1 v l.length (l.map Value.string)
def Uh (w:World)(B C:Nat)(x:cX):Prop:=∃(j:Option Addr) (aC:Nat) (o:Option Addr) (fC:Nat),
 al w C 188 #[.int .u8 x.kind,.int .u8 x.op,.string x.dst,.string x.ref,.string x.Ni,.slice j x.args.length aC,.slice o x.Nh.length fC,.int .i64 x.num,.int .i64 x.Nj]∧
 Tx B w (.slice j x.args.length aC) x.args∧Tx B w (.slice o x.Nh.length fC) x.Nh∧(∀b,(Value.slice j x.args.length aC).ownBlock=some b→(Value.slice o x.Nh.length fC).ownBlock≠some b)∧B≤C
theorem Uu {w:World}{base:Nat}{t:TypeId}{size n:Nat}{v:Value}{xs:List Value}(h:w.ownsRow base t size v n xs){g:Nat}(j:v.ownBlock=some g):∃cs fr,w.heap[g]? =some (.cells cs t fr):=by
 rcases h.2 with ⟨rfl,_⟩|⟨g2,cap,cur,rfl,_,o,_⟩;·cases j
 cases j;exact⟨_,_,o⟩
theorem Ot {w:World}{base g:Nat}{t o:TypeId}{size n:Nat}{v:Value}{xs:List Value}{cs:Array Value}(h:w.ownsRow base t size v n xs){b:Nat}(C:v.ownBlock=some b)(I:al w g o cs)(J:t≠o):b≠g:=by obtain⟨R,fr,j⟩:=Uu h C;rintro rfl;rw[show w.heap[b]? =_ from I] at j;injection j with j;injection j with _ j;exact J j.symm
theorem eo {w:World}{B g n:Nat}{t:TypeId}{v:Value}{xs:List Value}{cs:Array Value}(h:w.ownsRow B 9 1 v n xs)(b:al w g t cs)(j:t≠9):v.ownBlock≠some g:=fun e=>(Ot h e b (Ne.symm j)) rfl
theorem Uh.put_args {w:World}{B C:Nat}{x:cX}{j aA I:Option Addr}{o aC fC:Nat}{s:ByteArray}
 (J:al w C 188 #[.int .u8 x.kind,.int .u8 x.op,.string x.dst,.string x.ref,.string x.Ni,.slice aA x.args.length aC,.slice I x.Nh.length fC,.int .i64 x.num,.int .i64 x.Nj])
 (hr:w.ownsRow B 9 1 (.slice j (x.args.length+1) o) (x.args.length+1) (x.args.map Value.string++[.string s])) (Y:Tx B w (.slice I x.Nh.length fC) x.Nh)
 (hs:∀b,(Value.slice j (x.args.length+1) o).ownBlock=some b→(Value.slice I x.Nh.length fC).ownBlock≠some b) (hB:B≤C):
 Uh (w.setCell ⟨C,5,none⟩ (.slice j (x.args.length+1) o)) B C {x with args:=x.args++[s]}:=by
 have k:aa (fun b=>b≠C) w (w.setCell ⟨C,5,none⟩ (.slice j (x.args.length+1) o)):=kR.setCell (.inl fun h=>h rfl) _;have h1:=be hr k fun g R=>by rintro rfl;exact eo hr J (by decide) R
 have h2:=be Y k fun g R=>by rintro rfl;exact eo Y J (by decide) R
 have h3:=J.set 5 (.slice j (x.args.length+1) o);simp only[ga] at h3;have hl:(x.args++[s]).length=x.args.length+1:=by simp
 refine⟨j,o,I,fC,?_,?_,h2,?_,hB⟩
 ·show al _ _ _ #[_,_,_,_,_,.slice j (x.args++[s]).length o,_,_,_]
  rw[hl];exact h3
 ·show Tx B _ (.slice j (x.args++[s]).length o) (x.args++[s])
  unfold Tx;rw[hl,ic];exact h1
 show∀b,(Value.slice j (x.args++[s]).length o).ownBlock=some b→_;rw[hl];exact hs
theorem Uh.put_frm {w:World}{B C:Nat}{x:cX}{j I fA:Option Addr}{o aC fC:Nat}{s:ByteArray}
 (J:al w C 188 #[.int .u8 x.kind,.int .u8 x.op,.string x.dst,.string x.ref,.string x.Ni,.slice I x.args.length aC,.slice fA x.Nh.length fC,.int .i64 x.num,.int .i64 x.Nj])
 (hr:w.ownsRow B 9 1 (.slice j (x.Nh.length+1) o) (x.Nh.length+1) (x.Nh.map Value.string++[.string s])) (hf:Tx B w (.slice I x.args.length aC) x.args)
 (hs:∀b,(Value.slice j (x.Nh.length+1) o).ownBlock=some b→(Value.slice I x.args.length aC).ownBlock≠some b) (hB:B≤C):
 Uh (w.setCell ⟨C,6,none⟩ (.slice j (x.Nh.length+1) o)) B C {x with Nh:=x.Nh++[s]}:=by
 have k:aa (fun b=>b≠C) w (w.setCell ⟨C,6,none⟩ (.slice j (x.Nh.length+1) o)):=kR.setCell (.inl fun h=>h rfl) _;have h1:=be hr k fun g R=>by rintro rfl;exact eo hr J (by decide) R
 have Y:=be hf k fun g R=>by rintro rfl;exact eo hf J (by decide) R
 have h3:=J.set 6 (.slice j (x.Nh.length+1) o);simp only[ga] at h3;have hl:(x.Nh++[s]).length=x.Nh.length+1:=by simp
 refine⟨I,aC,j,o,?_,Y,?_,?_,hB⟩
 ·show al _ _ _ #[_,_,_,_,_,_,.slice j (x.Nh++[s]).length o,_,_]
  rw[hl];exact h3
 ·show Tx B _ (.slice j (x.Nh++[s]).length o) (x.Nh++[s])
  unfold Tx;rw[hl,ic];exact h1
 show∀b,_→(Value.slice j (x.Nh++[s]).length o).ownBlock≠some b;rw[hl];exact fun b h1 Y=>hs b Y h1
theorem UL {v u f:Value}{n:Nat}{B:Nat}{W:World}{xs:List Value}(C:W.ownsRow B 9 1 f n xs)(I:∀b,v.ownBlock=some b→f.ownBlock≠some b){m:Nat}(hm:W.heap.size≤m)(h:u.ownBlock=v.ownBlock∨∀g,u.ownBlock=some g→m≤g):∀b,u.ownBlock=some b→f.ownBlock≠some b:=by
 intro b o;rcases h with h|h;·exact I b (h▸o)
 intro j;have:=(aD C j).2;have:=h b o;omega
theorem Uh.cellAt {w:World}{B o:Nat}{x:cX}(h:Uh w B o x)(j:Nat)(C:j<9):∃u,w.cell? ⟨o,j,none⟩=some u:=by obtain⟨J,aC,R,fC,I,_⟩:=h;rw[I.cell j];exact⟨_,Array.getElem?_eq_getElem (by simpa using C)⟩
theorem Uh.free {w:World}{B o:Nat}{x:cX}(h:Uh w B o x)(j:Nat):w.frozen? ⟨o,j,none⟩=false:=by obtain⟨I,aC,J,fC,C,_⟩:=h;exact C.free j
theorem Uh.kept {w w':World}{B o:Nat}{x:cX}{S:Nat→Prop}(h:Uh w B o x)(k:aa S w w')(h1:S o)(J:∀b cs fr,B≤b→w.heap[b]? =some (.cells cs 9 fr)→S b):Uh w' B o x:=by obtain⟨R,aC,Y,fC,hb,C,rf,hs,hB⟩:=h;exact⟨R,aC,Y,fC,hb.kept k h1,be C k fun g j=>by obtain⟨cs,fr,I⟩:=Uu C j;exact J g cs fr (aD C j).1 I,be rf k fun g j=>by obtain⟨cs,fr,I⟩:=Uu rf j;exact J g cs fr (aD rf j).1 I,hs,hB⟩
theorem Uh.set {w:World}{B o:Nat}{x x':cX}(h:Uh w B o x)(j:Nat)(v:Value)(C:x'.args=x.args)(I:x'.Nh=x.Nh)
 (hc:∀a f:Value,([.int .u8 x.kind,.int .u8 x.op,.string x.dst,.string x.ref,.string x.Ni,a,f,.int .i64 x.num,.int .i64 x.Nj]:List Value).set j v=[.int .u8 x'.kind,.int .u8 x'.op,.string x'.dst,.string x'.ref,.string x'.Ni,a,f,.int .i64 x'.num,.int .i64 x'.Nj]):Uh (w.setCell ⟨o,j,none⟩ v) B o x':=by
 have k:aa (fun b=>b≠o) w (w.setCell ⟨o,j,none⟩ v):=kR.setCell (.inl fun h=>h rfl) _;obtain⟨aA,aC,fA,fC,J,Y,rf,hs,hB⟩:=h;have h1:=be Y k fun g R=>by rintro rfl;exact eo Y J (by decide) R
 have h2:=be rf k fun g R=>by rintro rfl;exact eo rf J (by decide) R
 have h3:=J.set j v;rw[List.setIfInBounds_toArray,hc] at h3;refine⟨aA,aC,fA,fC,?_,?_,?_,?_,hB⟩;·rw[C,I];exact h3
 ·rw[C];exact h1
 ·rw[I];exact h2
 rw[C,I];exact hs
structure St (w0:World)(B pb xb:Nat)(p:cr)(A:Option Addr)(C m:Nat)(k:Nat)(x:cX)(w:World):Prop where
 kept:aa (Wm pb B) w0 w
 par:PB w B pb p A C k m
 Nb:Uh w B xb x
section
variable {w0 w w':World} {B pb xb:Nat} {p:cr} {A:Option Addr} {C m k k':Nat} {x x':cX}
theorem St.first (h:PB w B pb p A C k m)(j:Uh w B xb x):St w B pb xb p A C m k x w:=⟨kR,h,j⟩
theorem St.ne (h:St w0 B pb xb p A C m k x w):xb≠pb:=by obtain⟨o,aC,I,fC,j,_⟩:=h.Nb;exact j.ne h.par.box (by decide)
theorem St.moved {o:Nat}(h:St w0 B pb xb p A C m k x w)(hm:wi pb p A C k' o w w'):St w0 B pb xb p A C o k' x w':=by refine⟨h.kept.trans (hm.1.mono fun _ I=>I.1),h.par.moved hm,h.Nb.kept hm.1 h.ne fun b cs fr _ j e=>?_⟩;subst e;rw[show w.heap[b]? =_ from h.par.box] at j;injection j with j;injection j with _ j;exact absurd j (by decide)
theorem St.all (h:St w0 B pb xb p A C m k x w)(j:aa All w w'):St w0 B pb xb p A C m k x w':=
 ⟨h.kept.trans j.all,h.par.kept j fun _ _=>trivial,h.Nb.kept j trivial fun _ _ _ _ _=>trivial⟩
theorem Ts (h:St w0 B pb xb p A C m k x w)(h':St w B pb xb p A C m k' x' w'):St w0 B pb xb p A C m k' x' w':=⟨h.kept.trans h'.kept,h'.par,h'.Nb⟩
theorem Uh.low (h:Uh w B xb x):B≤xb:=by obtain⟨j,aC,o,fC,I,J,rf,R,hB⟩:=h;exact hB
theorem St.set (h:St w0 B pb xb p A C m k x w)(j:Nat)(v:Value)(J:x'.args=x.args)(R:x'.Nh=x.Nh)
 (Y:∀a f:Value,([.int .u8 x.kind,.int .u8 x.op,.string x.dst,.string x.ref,.string x.Ni,a,f,.int .i64 x.num,.int .i64 x.Nj]:List Value).set j v=[.int .u8 x'.kind,.int .u8 x'.op,.string x'.dst,.string x'.ref,.string x'.Ni,a,f,.int .i64 x'.num,.int .i64 x'.Nj]):St w0 B pb xb p A C m k x' (w.setCell ⟨xb,j,none⟩ v):=by
 have hB:=h.Nb.low;have o:aa (fun b=>b≠xb) w (w.setCell ⟨xb,j,none⟩ v):=kR.setCell (.inl fun h=>h rfl) _;exact⟨h.kept.trans (o.mono fun b I=>by have:=I.2;show b≠xb;omega),h.par.kept o fun b I=>by show b≠xb;omega,h.Nb.set j v J R Y⟩
end
theorem Ue {W:World}{B pb:Nat}{p:cr}{A:Option Addr}{C k m:Nat}{v:Value}{n:Nat}{xs:List Value}{S:Value→Prop}(h:PB W B pb p A C k m)(r:W.ownsRow B 9 1 v n xs):
 Vb W (fun i=>i≠pb) v (fun b w=>PB w B pb p A C (if b then k+1 else k) m) (fun y _=>S y) where
 big:=fun i hi e=>by have:=h.low;have:=h.size;omega
 own:=fun b j=>⟨fun e=>by subst e;exact eo r h.box (by decide) j,(aD r j).2⟩
 ps:=fun b w w' o I=>I.kept o fun i hi e=>by have:=(aD r e).1;omega
 c:=fun _ _ _ _ h=>h
end
theorem UP:(prog.info? 9).map (fun i=>(i.zero,i.size,i.bytes))=some (some (.string ⟨#[]⟩),1,16):=by kernel_rfl
def Ua (B pb j:Nat)(p:cr)(A:Option Addr)(C m:Nat)(k':Nat)(x':cX)(w:World)(e:Ending)(w':World):Prop:=e=.returned (.tuple #[])∧St w B pb j p A C m k' x' w'
theorem Vy {J w w':World}{B pb o j k m:Nat}{p:cr}{A:Option Addr}{C:Nat}{x x':cX}{k':Nat}{v u:Value}{n:Nat}{xs:List Value}(h:St J B pb o p A C m k x w)(ro:w.ownsRow B 9 1 v n xs)
 (R:aa (fun i=>v.ownBlock≠some i∧i≠pb) w w') (Y:PB w' B pb p A C k' m) (hX:Uh (w'.setCell ⟨o,j,none⟩ u) B o x'):St J B pb o p A C m k' x' (w'.setCell ⟨o,j,none⟩ u):=by
 have hB:=h.Nb.low;have kx:aa (fun b=>b≠o) w' (w'.setCell ⟨o,j,none⟩ u):=kR.setCell (.inl fun h=>h rfl) _;exact⟨(h.kept.trans (R.mono fun b I=>⟨fun e=>by have:=(aD ro e).1;have:=I.2;omega,I.1⟩)).trans (kx.mono fun b I=>by have:=I.2;show b≠o;omega),Y.kept kx fun b I=>by show b≠o;omega,hX⟩
theorem WH (B pb j:Nat)(p:cr)(A:Option Addr)(C k m:Nat)(x:cX)(w:World)(h:PB w B pb p A C k m)(o:Uh w B j x)(J:p.Ok)(R:p.is k 1=true):
 Calls prog 227 #[.pointer (some ⟨pb,0,none⟩),.pointer (some ⟨j,0,none⟩)] w (Ua B pb j p A C m (k+1) {x with kind:=11,ref:=p.txt k} w):=by
 have I:=oH (St.first h o);clear h o;go_enter func227,ntmps227;go_wp2_with fail;refine(xi pb p A C _ m _ I.out.par.pat J R).mono ?_;rintro e w1 ⟨rfl,hm⟩;have H1:=oH (I.out.moved hm);clear hm;obtain⟨u0,Y⟩:=H1.out.Nb.cellAt 0 (by decide);have a1:=H1.out.Nb.free 0;obtain⟨u3,a6⟩:=H1.out.Nb.cellAt 3 (by decide);have a7:=H1.out.Nb.free 3;go_wp2_with fail
 go_end0
 exact⟨rfl,(H1.out.set 0 (.int .u8 11) (x':= {x with kind:=11}) rfl rfl (fun _ _=>rfl)).set 3 (.string (p.txt k)) rfl rfl (fun _ _=>rfl)⟩
theorem WX (B pb xb:Nat)(p:cr)(A:Option Addr)(C k m:Nat)(x:cX)(w:World)(h:PB w B pb p A C k m)(hx:Uh w B xb x)(hp:p.Ok)(hq:p.is k 1=true)(hl:x.args.length≤1000):
 Calls prog 229 #[.pointer (some ⟨pb,0,none⟩),.pointer (some ⟨xb,0,none⟩)] w (Ua B pb xb p A C m (k+1) {x with kind:=13,args:=x.args++[p.txt k]} w):=by
 obtain⟨iS,IS⟩:=iH UP;have H0:=oH (St.first h hx);clear h hx;go_enter func229,ntmps229;obtain⟨u0,a6⟩:=H0.out.Nb.cellAt 0 (by decide);have a7:=H0.out.Nb.free 0;go_upto_region 1 with fail;have h2:=H0.out.set 0 (.int .u8 13) (x':= {x with kind:=13}) rfl rfl (fun _ _=>rfl);generalize w.setCell _ _=W1 at*;have H1:=oH h2;clear h2 a6 a7;obtain⟨aA,aC,fA,fC,hb,ra,rf,J,Y⟩:=H1.out.Nb;have HC:=oH (fun wn (hn:PB wn B pb p A C (k) m)=>xi pb p A C _ m wn hn.pat hp hq);have HV:=oH (fun wn (hn:aa (fun i=>(Value.ownBlock (.slice aA (x).args.length aC))≠some i∧i≠pb) W1 wn)=>show wn.cell? ⟨xb,5,none⟩=some (.slice aA (x).args.length aC) from(hb.kept hn ⟨eo ra hb (by decide),H1.out.ne⟩).cell 5);have HG:=oH (Ue (k:=k) (S:=fun y=>y=.string (p.txt (k))) H1.out.par ra);have HR:=J3 ra (show PB W1.drew B pb p A C (if false=true then(k)+1 else(k)) m from H1.out.par.kept (S:=All) kR.drew fun _ _=>trivial) H1.out.par.size;have o:=J4 hb rf J Y;clear hb ra rf J Y;refine hH 11 6 [7,8] (SY W1 (fun i=>i≠pb) B 9 1 (.slice aA (x).args.length aC) (x).args.length ((x).args.map Value.string) (fun b w=>PB w B pb p A C (if b then(k)+1 else(k)) m)) [13,14,15] (FY W1 (fun i=>i≠pb) B 9 1 (.slice aA (x).args.length aC) (x).args.length ((x).args.map Value.string) (fun y=>[y]) (fun y _=>y=.string (p.txt (k))) 14 13) (fun i=>if i=6 then some (fun y=>y=.string (p.txt (k))) else if i=7 then some Oa else if i=8 then some (NT (x).args.length) else none) (fun _=>false) (fun _ _=>False) (by kernel_rfl) (by kernel_rfl) (by kernel_rfl) (by kernel_rfl) (VJ _ _ _) (by kernel_rfl) (by decide) (SY.first HR.1 HR.2.1) (fun _ _ _ h=>h.elim) ?_;simp only[tK];iterate 6 refine OY (fun b wn R hp=>by(have q:=HV.out wn R.1;skip;go_simp;with_reducible rfl)) ?_
 refine Hy (V:=(fun y=>y=.string (p.txt (k)))) HG.out (by rfl) (by rfl) (by rfl) rfl (by decide) (fun wn R=>⟨_,_,by(have q:=HV.out wn R.1;go_simp<;>with_reducible rfl),(HC.out wn R.2.2).mono fun e w' h=>⟨_,h.1,rfl,h.2.1,R.2.2.moved h.2,rfl⟩⟩) ?_;rintro u rfl;simp only[PS];refine Tv HG.out (by decide) (by rfl) (by rfl) (by rfl) rfl (by decide) _ rfl (by decide) (fun wn R=>by(skip;go_simp<;>with_reducible rfl)) ?_;intro g;simp only[PS];refine Tu HG.out (by decide) (by rfl) (by rfl) (by rfl) rfl (by decide) (by decide) (.tmp 11) 22 rfl iS _ 16 underlying22 IS.1 IS.2.1 IS.2.2.1 IS.2.2.2 rfl (by decide) rfl g rfl (by decide) (fun y w hy=>by subst hy;exact⟨rfl,fun u hu=>by rw[cx.1 hu];rfl⟩) (by unfold maxLen;show x.args.length+1≤_;omega) (by show(x.args.length+1)*16≤_;omega) HR.2.2 ?_;intro A5 c5;simp only[PS];iterate 2 refine OY (fun b wn R hp=>by(have q:=HV.out wn R.1;skip;go_simp;with_reducible rfl)) ?_
 refine TE fun wt a1 hF=>?_;have I:=hF 15 (by simp) _ rfl;unfold FY at I;rw[ae (by decide),ae (by decide)] at I;have HT:=oH (show SY _ _ _ _ _ _ _ _ _ _ _ from a1);have HA:=oH I;clear a1 hF I;simp only[dK];have j:=o.1.kept HT.1 ⟨eo HR.1 o.1 (by decide),H1.out.ne⟩;have b5:=j.cl 5;have f5:=j.free 5;clear j;go_wp2_with fail
 go_end0
 obtain⟨y,wz,q1,rfl,q3,q4,q5⟩:=HA.out;have j:=o.1.kept HT.1 ⟨eo HR.1 o.1 (by decide),H1.out.ne⟩;have a8:=be o.2.1 HT.1 fun g hg=>⟨fun e=>o.2.2.1 g e hg,by rintro rfl;exact eo o.2.1 H1.out.par.box (by decide) hg⟩;have hX:=Uh.put_args (x:= {x with kind:=13}) j q1 a8 (UL o.2.1 o.2.2.1 q3 q5) o.2.2.2;have b0:=Vy H1.out HR.1 HT.1 HT.2.2 hX;exact⟨rfl,b0⟩
theorem VC (B pb xb:Nat)(p:cr)(A:Option Addr)(C k m:Nat)(x:cX)(w:World)(h:PB w B pb p A C k m)(hx:Uh w B xb x)(hp:p.Ok)(hq:p.is k 1=true)(b0:p.is (k+1) 1=true)(b1:p.is (k+1+1) 1=true)(hl:x.args.length≤1000):
 Calls prog 228 #[.pointer (some ⟨pb,0,none⟩),.pointer (some ⟨xb,0,none⟩)] w (Ua B pb xb p A C m (k+1+1+1) {x with kind:=12,args:=x.args++[p.txt k],ref:=p.txt (k+1),Ni:=p.txt (k+1+1)} w):=by
 obtain⟨iS,IS⟩:=iH UP;have H0:=oH (St.first h hx);clear h hx;go_enter func228,ntmps228;obtain⟨u0,b2⟩:=H0.out.Nb.cellAt 0 (by decide);have b3:=H0.out.Nb.free 0;go_upto_region 1 with fail;have h2:=H0.out.set 0 (.int .u8 12) (x':= {x with kind:=12}) rfl rfl (fun _ _=>rfl);generalize w.setCell _ _=W1 at*;have H1:=oH h2;clear h2 b2 b3;obtain⟨aA,aC,fA,fC,hb,ra,rf,J,a1⟩:=H1.out.Nb;have HC:=oH (fun wn (hn:PB wn B pb p A C (k) m)=>xi pb p A C _ m wn hn.pat hp hq);have HV:=oH (fun wn (hn:aa (fun i=>(Value.ownBlock (.slice aA (x).args.length aC))≠some i∧i≠pb) W1 wn)=>show wn.cell? ⟨xb,5,none⟩=some (.slice aA (x).args.length aC) from(hb.kept hn ⟨eo ra hb (by decide),H1.out.ne⟩).cell 5);have HG:=oH (Ue (k:=k) (S:=fun y=>y=.string (p.txt (k))) H1.out.par ra);have HR:=J3 ra (show PB W1.drew B pb p A C (if false=true then(k)+1 else(k)) m from H1.out.par.kept (S:=All) kR.drew fun _ _=>trivial) H1.out.par.size;have o:=J4 hb rf J a1;clear hb ra rf J a1;refine hH 11 6 [7,8] (SY W1 (fun i=>i≠pb) B 9 1 (.slice aA (x).args.length aC) (x).args.length ((x).args.map Value.string) (fun b w=>PB w B pb p A C (if b then(k)+1 else(k)) m)) [13,14,15] (FY W1 (fun i=>i≠pb) B 9 1 (.slice aA (x).args.length aC) (x).args.length ((x).args.map Value.string) (fun y=>[y]) (fun y _=>y=.string (p.txt (k))) 14 13) (fun i=>if i=6 then some (fun y=>y=.string (p.txt (k))) else if i=7 then some Oa else if i=8 then some (NT (x).args.length) else none) (fun _=>false) (fun _ _=>False) (by kernel_rfl) (by kernel_rfl) (by kernel_rfl) (by kernel_rfl) (VJ _ _ _) (by kernel_rfl) (by decide) (SY.first HR.1 HR.2.1) (fun _ _ _ h=>h.elim) ?_;simp only[tK];iterate 6 refine OY (fun b wn R hp=>by(have q:=HV.out wn R.1;skip;go_simp;with_reducible rfl)) ?_
 refine Hy (V:=(fun y=>y=.string (p.txt (k)))) HG.out (by rfl) (by rfl) (by rfl) rfl (by decide) (fun wn R=>⟨_,_,by(have q:=HV.out wn R.1;go_simp<;>with_reducible rfl),(HC.out wn R.2.2).mono fun e w' h=>⟨_,h.1,rfl,h.2.1,R.2.2.moved h.2,rfl⟩⟩) ?_;rintro u rfl;simp only[PS];refine Tv HG.out (by decide) (by rfl) (by rfl) (by rfl) rfl (by decide) _ rfl (by decide) (fun wn R=>by(skip;go_simp<;>with_reducible rfl)) ?_;intro g;simp only[PS];refine Tu HG.out (by decide) (by rfl) (by rfl) (by rfl) rfl (by decide) (by decide) (.tmp 11) 22 rfl iS _ 16 underlying22 IS.1 IS.2.1 IS.2.2.1 IS.2.2.2 rfl (by decide) rfl g rfl (by decide) (fun y w hy=>by subst hy;exact⟨rfl,fun u hu=>by rw[cx.1 hu];rfl⟩) (by unfold maxLen;show x.args.length+1≤_;omega) (by show(x.args.length+1)*16≤_;omega) HR.2.2 ?_;intro A5 c5;simp only[PS];iterate 2 refine OY (fun b wn R hp=>by(have q:=HV.out wn R.1;skip;go_simp;with_reducible rfl)) ?_
 refine TE fun wt a6 hF=>?_;have I:=hF 15 (by simp) _ rfl;unfold FY at I;rw[ae (by decide),ae (by decide)] at I;have Y:=oH (show SY _ _ _ _ _ _ _ _ _ _ _ from a6);have HA:=oH I;clear a6 hF I;simp only[dK];have j:=o.1.kept Y.1 ⟨eo HR.1 o.1 (by decide),H1.out.ne⟩;have b5:=j.cl 5;have f5:=j.free 5;clear j;go_upto_region 2 with fail;obtain⟨y,wz,q1,rfl,q3,q4,q5⟩:=HA.out;have j:=o.1.kept Y.1 ⟨eo HR.1 o.1 (by decide),H1.out.ne⟩;have a7:=be o.2.1 Y.1 fun g hg=>⟨fun e=>o.2.2.1 g e hg,by rintro rfl;exact eo o.2.1 H1.out.par.box (by decide) hg⟩;have hX:=Uh.put_args (x:= {x with kind:=12}) j q1 a7 (UL o.2.1 o.2.2.1 q3 q5) o.2.2.2;have a8:=Vy H1.out HR.1 Y.1 Y.2.2 hX;generalize wt.setCell _ _=b7 at*;have H2:=oH a8;clear j a7 hX a8 q1 q3 q4 q5 b5 f5 HA Y o HR HG HV HC;go_wp2_with fail;refine(xi pb p A C _ m _ H2.out.par.pat hp b0).mono ?_;rintro e w3 ⟨rfl,hm⟩;have H3:=oH (H2.out.moved hm);clear hm;obtain⟨u3,b4⟩:=H3.out.Nb.cellAt 3 (by decide);have b6:=H3.out.Nb.free 3;go_upto_region 3 with fail;have h2:=H3.out.set 3 (.string (p.txt (k+1))) (x':= {x with kind:=12,args:=x.args++[p.txt k],ref:=p.txt (k+1)}) rfl rfl (fun _ _=>rfl);generalize w3.setCell _ _=W4 at*;have H4:=oH h2;clear h2 b4 b6;go_wp2_with fail;refine(xi pb p A C _ m _ H4.out.par.pat hp b1).mono ?_;rintro e w5 ⟨rfl,hm⟩;have H5:=oH (H4.out.moved hm);clear hm;obtain⟨u4,b8⟩:=H5.out.Nb.cellAt 4 (by decide);have b9:=H5.out.Nb.free 4;go_wp2_with fail
 go_end0
 exact⟨rfl,H5.out.set 4 (.string (p.txt (k+1+1))) rfl rfl (fun _ _=>rfl)⟩
theorem WM {s:ByteArray}(j:Ab s=true){n:Nat}(h:ia s=some n):s.size=0∨Ai s 0≠45:=by
 by_cases o:s.size=0;·exact .inl o
 right;unfold ia at h;split at h;·cases h
 intro e;rw[Ui (by omega),(TI j (by omega)).2.2] at h;simp only[e] at h;rw[ae (by decide)] at h;cases h
theorem TJ {p:cr}(j:p.Ok)(k:Nat):Ab (p.txt k)=true∧(p.txt k).size≤65536:=by
 unfold cr.txt;cases o:p.l[k]? with
 |none=>exact⟨by kernel_rfl,by show gR.size≤_;decide⟩
 |some t=>have h:=j.tok t (mG o);have C:=j.size;exact⟨Ug j.plain _ _,by show(p.s.extract t.beg t.fin).size≤_;rw[TS _ _ _ h.2.1];omega⟩
theorem VN (pb:Nat)(p:cr)(A:Option Addr)(C k m n:Nat)(w:World)(h:Uo w pb p A C k m)(o:p.Ok)(R:p.is k 3=true)(I:ia (p.txt k)=some n):
 Calls prog 82 #[.pointer (some ⟨pb,0,none⟩)] w fun e w'=>e=.returned (.int .i64 n)∧wi pb p A C (k+1) m w w':=by
 have HT:=oH (Vi pb p A C k m 3 w h o R);have HN:=oH (fun w=>VU (p.txt k) w (TJ o k).1 (WM (TJ o k).1 I) (TJ o k).2);have HQ:=oH I;clear h R I;go_enter func82,ntmps82;go_wp2_with fail;refine HT.out.mono ?_;rintro e w1 ⟨rfl,hm⟩;have Y:=oH hm;clear hm;go_wp2_with fail;refine(HN.out w1).mono ?_;rintro e w2 ⟨j,v,rfl,hv⟩;have J:=hv n HQ.out;subst J;have HK:=oH j;clear j hv;go_wp2_with fail;go_ret;exact⟨rfl,Y.1.trans HK.out.all,Y.2.keep HK.out⟩
theorem qet (B pb j:Nat)(p:cr)(A:Option Addr)(C k m:Nat)(x:cX)(w:World)(h:PB w B pb p A C k m)(o:Uh w B j x)(J:p.Ok)(n:Nat)(R:p.is k 3=true)(Y:ia (p.txt k)=some n):
 Calls prog 253 #[.pointer (some ⟨pb,0,none⟩),.pointer (some ⟨j,0,none⟩)] w (Ua B pb j p A C m (k+1) {x with kind:=1,num:=n} w):=by
 have I:=oH (St.first h o);clear h o;go_enter func253,ntmps253;go_wp2_with fail;refine(VN pb p A C k m n w I.out.par.pat J R Y).mono ?_;rintro e w1 ⟨rfl,hm⟩;have H1:=oH (I.out.moved hm);clear hm;obtain⟨u0,a1⟩:=H1.out.Nb.cellAt 0 (by decide);have a6:=H1.out.Nb.free 0;obtain⟨u7,a7⟩:=H1.out.Nb.cellAt 7 (by decide);have a8:=H1.out.Nb.free 7;go_wp2_with fail
 go_end0
 exact⟨rfl,(H1.out.set 0 (.int .u8 1) (x':= {x with kind:=1}) rfl rfl (fun _ _=>rfl)).set 7 (.int .i64 n) rfl rfl (fun _ _=>rfl)⟩
def TN (w:World)(g0 g1 j pb:Nat):Prop:=al w g0 272 #[.pointer (some ⟨j,0,none⟩)]∧al w g1 100 #[.pointer (some ⟨pb,0,none⟩)]∧g0≠pb∧g1≠pb
theorem TN.kept {w w':World}{g0 g1 j pb:Nat}{S:Nat→Prop}(h:TN w g0 g1 j pb)(k:aa S w w')(o:S g0)(h1:S g1):TN w' g0 g1 j pb:=⟨h.1.kept k o,h.2.1.kept k h1,h.2.2⟩
def Wt (g0 g1:Nat)(B pb j:Nat)(p:cr)(A:Option Addr)(C m:Nat)(k':Nat)(x':cX)(w:World)(e:Ending)(w':World):Prop:=e=.returned (.tuple #[])∧St w B pb j p A C m k' x' w'∧TN w' g0 g1 j pb
theorem Xo (B pb xb:Nat)(p:cr)(A:Option Addr)(C k m:Nat)(x:cX)(w:World)(h:PB w B pb p A C k m)(hx:Uh w B xb x)(hp:p.Ok)(g0 g1:Nat)(hb:TN w g0 g1 xb pb)(hq:p.is k 1=true)(b3:p.txt (k+1)=⟨#[58]⟩)(b4:p.is (k+1+1) 1=true)(hl:x.args.length≤1000)(b7:x.Nh.length≤1000):
 Calls prog 258 #[.pointer (some ⟨g0,0,none⟩),.pointer (some ⟨g1,0,none⟩)] w (Wt g0 g1 B pb xb p A C m (k+1+1+1) {x with Nh:=x.Nh++[p.txt k],args:=x.args++[p.txt (k+1+1)]} w):=by
 obtain⟨iS,IS⟩:=iH UP;have H0:=oH (St.first h hx);have HB:=oH hb;clear h hx hb;go_enter func258,ntmps258;go_upto_region 0 with fail;obtain⟨aA,aC,fA,fC,hb,ra,rf,R,a1⟩:=H0.out.Nb;have HC:=oH (fun wn (hn:PB wn B pb p A C (k) m)=>xi pb p A C _ m wn hn.pat hp hq);have HV:=oH (fun wn (hn:aa (fun i=>(Value.ownBlock (.slice fA (x).Nh.length fC))≠some i∧i≠pb) w wn)=>show wn.cell? ⟨g0,0,none⟩=some (.pointer (some ⟨xb,0,none⟩))∧wn.cell? ⟨g1,0,none⟩=some (.pointer (some ⟨pb,0,none⟩))∧wn.cell? ⟨xb,6,none⟩=some (.slice fA (x).Nh.length fC) from⟨(HB.1.kept hn ⟨eo rf HB.1 (by decide),HB.2.2.1⟩).cell 0,(HB.2.1.kept hn ⟨eo rf HB.2.1 (by decide),HB.2.2.2⟩).cell 0,(hb.kept hn ⟨eo rf hb (by decide),H0.out.ne⟩).cell 6⟩);have HG:=oH (Ue (k:=k) (S:=fun y=>y=.string (p.txt (k))) H0.out.par rf);have HR:=J3 rf (show PB w.drew B pb p A C (if false=true then(k)+1 else(k)) m from H0.out.par.kept (S:=All) kR.drew fun _ _=>trivial) H0.out.par.size;have o:=J4 hb ra (fun b h1 h2=>R b h2 h1) a1;clear hb ra rf R a1;refine hH 11 6 [7,8] (SY w (fun i=>i≠pb) B 9 1 (.slice fA (x).Nh.length fC) (x).Nh.length ((x).Nh.map Value.string) (fun b w=>PB w B pb p A C (if b then(k)+1 else(k)) m)) [8,9,10] (FY w (fun i=>i≠pb) B 9 1 (.slice fA (x).Nh.length fC) (x).Nh.length ((x).Nh.map Value.string) (fun y=>[y]) (fun y _=>y=.string (p.txt (k))) 9 8) (fun i=>if i=6 then some (fun y=>y=.string (p.txt (k))) else if i=7 then some Oa else if i=8 then some (NT (x).Nh.length) else none) (fun _=>false) (fun _ _=>False) (by kernel_rfl) (by kernel_rfl) (by kernel_rfl) (by kernel_rfl) (VJ _ _ _) (by kernel_rfl) (by decide) (SY.first HR.1 HR.2.1) (fun _ _ _ h=>h.elim) ?_;simp only[tK];iterate 6 refine OY (fun b wn Y hp=>by(obtain⟨q0,q1,q2⟩:=HV.out wn Y.1;skip;go_simp;with_reducible rfl)) ?_
 refine Hy (V:=(fun y=>y=.string (p.txt (k)))) HG.out (by rfl) (by rfl) (by rfl) rfl (by decide) (fun wn Y=>⟨_,_,by(obtain⟨q0,q1,q2⟩:=HV.out wn Y.1;go_simp<;>with_reducible rfl),(HC.out wn Y.2.2).mono fun e w' h=>⟨_,h.1,rfl,h.2.1,Y.2.2.moved h.2,rfl⟩⟩) ?_;rintro u rfl;simp only[PS];refine Tv HG.out (by decide) (by rfl) (by rfl) (by rfl) rfl (by decide) _ rfl (by decide) (fun wn Y=>by(skip;go_simp<;>with_reducible rfl)) ?_;intro g;simp only[PS];refine Tu HG.out (by decide) (by rfl) (by rfl) (by rfl) rfl (by decide) (by decide) (.tmp 6) 22 rfl iS _ 16 underlying22 IS.1 IS.2.1 IS.2.2.1 IS.2.2.2 rfl (by decide) rfl g rfl (by decide) (fun y w hy=>by subst hy;exact⟨rfl,fun u hu=>by rw[cx.1 hu];rfl⟩) (by unfold maxLen;show x.Nh.length+1≤_;omega) (by show(x.Nh.length+1)*16≤_;omega) HR.2.2 ?_;intro A5 c5;simp only[PS];iterate 2 refine OY (fun b wn Y hp=>by(obtain⟨q0,q1,q2⟩:=HV.out wn Y.1;skip;go_simp;with_reducible rfl)) ?_
 refine TE fun wt a6 hF=>?_;have J:=hF 10 (by simp) _ rfl;unfold FY at J;rw[ae (by decide),ae (by decide)] at J;have HT:=oH (show SY _ _ _ _ _ _ _ _ _ _ _ from a6);have HA:=oH J;clear a6 hF J;simp only[dK];have I:=o.1.kept HT.1 ⟨eo HR.1 o.1 (by decide),H0.out.ne⟩;have b5:=I.cl 6;have f5:=I.free 6;clear I;go_upto_region 1 with fail;obtain⟨y,wz,q1,rfl,q3,q4,q5⟩:=HA.out;have I:=o.1.kept HT.1 ⟨eo HR.1 o.1 (by decide),H0.out.ne⟩;have a7:=be o.2.1 HT.1 fun g hg=>⟨fun e=>o.2.2.1 g e hg,by rintro rfl;exact eo o.2.1 H0.out.par.box (by decide) hg⟩;have hX:=Uh.put_frm (x:=x) I q1 a7 (UL o.2.1 o.2.2.1 q3 q5) o.2.2.2;have a8:=Vy H0.out HR.1 HT.1 HT.2.2 hX;have b0:aa (fun b=>b≠xb) wt (wt.setCell ⟨xb,6,none⟩ (.slice A5 (x.Nh.length+1) c5)):=kR.setCell (.inl fun h=>h rfl) _;have n0:g0≠xb:=HB.1.ne o.1 (by decide);have n1:g1≠xb:=HB.2.1.ne o.1 (by decide);have b1:=(HB.out.kept HT.1 ⟨eo HR.1 HB.1 (by decide),HB.2.2.1⟩ ⟨eo HR.1 HB.2.1 (by decide),HB.2.2.2⟩).kept b0 n0 n1;generalize wt.setCell _ _=b6 at*;have b2:=oH b1;have H1:=oH a8;clear I a7 hX a8 q1 q3 q4 q5 b5 f5 HA HT o HR HG HV HC b0 b1;have c1:=b2.2.1.cl 0;go_wp2_with fail;refine(Ar pb p A C (k+1) m ⟨#[58]⟩ b6 H1.out.par.pat hp b3 (by decide)).mono ?_;rintro e W2 ⟨rfl,hm⟩;have H2:=oH (H1.out.moved hm);have j:=oH (b2.out.kept hm.1 b2.2.2.1 b2.2.2.2);clear hm c1;go_upto_region 2 with fail;obtain⟨aA,aC,fA,fC,hb,ra,rf,R,a1⟩:=H2.out.Nb;have HC:=oH (fun wn (hn:PB wn B pb p A C (k+1+1) m)=>xi pb p A C _ m wn hn.pat hp b4);have HV:=oH (fun wn (hn:aa (fun i=>(Value.ownBlock (.slice aA (x).args.length aC))≠some i∧i≠pb) W2 wn)=>show wn.cell? ⟨g0,0,none⟩=some (.pointer (some ⟨xb,0,none⟩))∧wn.cell? ⟨g1,0,none⟩=some (.pointer (some ⟨pb,0,none⟩))∧wn.cell? ⟨xb,5,none⟩=some (.slice aA (x).args.length aC) from⟨(j.1.kept hn ⟨eo ra j.1 (by decide),j.2.2.1⟩).cell 0,(j.2.1.kept hn ⟨eo ra j.2.1 (by decide),j.2.2.2⟩).cell 0,(hb.kept hn ⟨eo ra hb (by decide),H2.out.ne⟩).cell 5⟩);have HG:=oH (Ue (k:=k+1+1) (S:=fun y=>y=.string (p.txt (k+1+1))) H2.out.par ra);have HR:=J3 ra (show PB W2.drew B pb p A C (if false=true then(k+1+1)+1 else(k+1+1)) m from H2.out.par.kept (S:=All) kR.drew fun _ _=>trivial) H2.out.par.size;have o:=J4 hb rf R a1;clear hb ra rf R a1;refine hH 11 6 [7,8] (SY W2 (fun i=>i≠pb) B 9 1 (.slice aA (x).args.length aC) (x).args.length ((x).args.map Value.string) (fun b w=>PB w B pb p A C (if b then(k+1+1)+1 else(k+1+1)) m)) [21,22,23] (FY W2 (fun i=>i≠pb) B 9 1 (.slice aA (x).args.length aC) (x).args.length ((x).args.map Value.string) (fun y=>[y]) (fun y _=>y=.string (p.txt (k+1+1))) 22 21) (fun i=>if i=6 then some (fun y=>y=.string (p.txt (k+1+1))) else if i=7 then some Oa else if i=8 then some (NT (x).args.length) else none) (fun _=>false) (fun _ _=>False) (by kernel_rfl) (by kernel_rfl) (by kernel_rfl) (by kernel_rfl) (VJ _ _ _) (by kernel_rfl) (by decide) (SY.first HR.1 HR.2.1) (fun _ _ _ h=>h.elim) ?_;simp only[tK];iterate 6 refine OY (fun b wn Y hp=>by(obtain⟨q0,q1,q2⟩:=HV.out wn Y.1;skip;go_simp;with_reducible rfl)) ?_
 refine Hy (V:=(fun y=>y=.string (p.txt (k+1+1)))) HG.out (by rfl) (by rfl) (by rfl) rfl (by decide) (fun wn Y=>⟨_,_,by(obtain⟨q0,q1,q2⟩:=HV.out wn Y.1;go_simp<;>with_reducible rfl),(HC.out wn Y.2.2).mono fun e w' h=>⟨_,h.1,rfl,h.2.1,Y.2.2.moved h.2,rfl⟩⟩) ?_;rintro u rfl;simp only[PS];refine Tv HG.out (by decide) (by rfl) (by rfl) (by rfl) rfl (by decide) _ rfl (by decide) (fun wn Y=>by(skip;go_simp<;>with_reducible rfl)) ?_;intro g;simp only[PS];refine Tu HG.out (by decide) (by rfl) (by rfl) (by rfl) rfl (by decide) (by decide) (.tmp 19) 22 rfl iS _ 16 underlying22 IS.1 IS.2.1 IS.2.2.1 IS.2.2.2 rfl (by decide) rfl g rfl (by decide) (fun y w hy=>by subst hy;exact⟨rfl,fun u hu=>by rw[cx.1 hu];rfl⟩) (by unfold maxLen;show x.args.length+1≤_;omega) (by show(x.args.length+1)*16≤_;omega) HR.2.2 ?_;intro A5 c5;simp only[PS];iterate 2 refine OY (fun b wn Y hp=>by(obtain⟨q0,q1,q2⟩:=HV.out wn Y.1;skip;go_simp;with_reducible rfl)) ?_
 refine TE fun wt a6 hF=>?_;have J:=hF 23 (by simp) _ rfl;unfold FY at J;rw[ae (by decide),ae (by decide)] at J;have HT:=oH (show SY _ _ _ _ _ _ _ _ _ _ _ from a6);have HA:=oH J;clear a6 hF J;simp only[dK];have I:=o.1.kept HT.1 ⟨eo HR.1 o.1 (by decide),H2.out.ne⟩;have b5:=I.cl 5;have f5:=I.free 5;clear I;go_wp2_with fail
 go_end0
 obtain⟨y,wz,q1,rfl,q3,q4,q5⟩:=HA.out;have I:=o.1.kept HT.1 ⟨eo HR.1 o.1 (by decide),H2.out.ne⟩;have a7:=be o.2.1 HT.1 fun g hg=>⟨fun e=>o.2.2.1 g e hg,by rintro rfl;exact eo o.2.1 H2.out.par.box (by decide) hg⟩;have hX:=Uh.put_args (x:= {x with Nh:=x.Nh++[p.txt k]}) I q1 a7 (UL o.2.1 o.2.2.1 q3 q5) o.2.2.2;have a8:=Vy H2.out HR.1 HT.1 HT.2.2 hX;have b0:aa (fun b=>b≠xb) wt (wt.setCell ⟨xb,5,none⟩ (.slice A5 (x.args.length+1) c5)):=kR.setCell (.inl fun h=>h rfl) _;have n0:g0≠xb:=j.1.ne o.1 (by decide);have n1:g1≠xb:=j.2.1.ne o.1 (by decide);have b1:=(j.out.kept HT.1 ⟨eo HR.1 j.1 (by decide),j.2.2.1⟩ ⟨eo HR.1 j.2.1 (by decide),j.2.2.2⟩).kept b0 n0 n1;exact⟨rfl,a8,b1⟩
theorem TN.set {w:World}{g0 g1 B o pb:Nat}{x:cX}(h:TN w g0 g1 o pb)(I:Uh w B o x)(j:Nat)(v:Value):TN (w.setCell ⟨o,j,none⟩ v) g0 g1 o pb:=by obtain⟨J,aC,R,fC,C,_⟩:=I;exact h.kept ((aa.refl (fun b=>b≠o) _).setCell (.inl fun h=>h rfl) _) (h.1.ne C (by decide)) (h.2.1.ne C (by decide))
theorem Uv {p:cr}{f n k:Nat}{fr o:List ByteArray}{r:List ByteArray×List ByteArray×Nat}(h:UH p (f+1) n k fr o=some r):
 p.is k 1=true∧n<64∧p.txt (k+1)=XW∧p.is (k+1+1) 1=true∧if p.txt (k+1+1+1)=Ym then UH p f (n+1) (k+1+1+1+1) (fr++[p.txt k]) (o++[p.txt (k+1+1)])=some r else r=(fr++[p.txt k],o++[p.txt (k+1+1)],k+1+1+1):=by
 rw[UH] at h;split at h;·cases h
 rename_i R;unfold Ty TR at h;by_cases h1:p.is k 1=true
 ·by_cases j:p.txt (k+1)=XW
  ·(
 by_cases C:p.is (k+1+1) 1=true
 ·simp only[h1,j,C,if_true,Option.bind_eq_bind,Option.bind_some] at h;refine⟨h1,by rcases Nat.lt_or_ge n 64 with I|I;exact I;exact absurd ⟨h1,I⟩ R,j,C,?_⟩;split at h;·rename_i J;rw[ap J];exact h
  rename_i J;rw[ae J];cases h;rfl
 simp[h1,j,C] at h)
  simp[h1,j] at h
 simp[h1] at h
theorem WR (B pb xb g0 g1:Nat)(p:cr)(A:Option Addr)(C k m k':Nat)(x:cX)(fr ar:List ByteArray)(w:World)(h:PB w B pb p A C k m)(hx:Uh w B xb x)(hb:TN w g0 g1 xb pb)(hp:p.Ok)(hr:UH p 65 0 k x.Nh x.args=some (fr,ar,k'))(hl:x.args.length≤100)(c0:x.Nh.length≤100):
 Calls prog 147 #[.pointer (some ⟨pb,0,none⟩),.int .i64 64,.func (.func 258) #[] #[.pointer (some ⟨g0,0,none⟩),.pointer (some ⟨g1,0,none⟩)]] w (Wt g0 g1 B pb xb p A C m k' {x with Nh:=fr,args:=ar} w):=by
 have H0:=J3 (St.first h hx) hb hr;have hlen:=hp.len;clear h hx hb hr;go_enter func147,ntmps147;go_wp2_with fail;go_loopg [6] 65 (fun g s6 wr=>∃(f n J:Nat) (f1 Y:List ByteArray),g=f∧s6=.int .i64 n∧n+f=65∧f1.length≤n+100∧Y.length≤n+100∧UH p f n J f1 Y=some (fr,ar,k')∧St w B pb xb p A C m J {x with Nh:=f1,args:=Y} wr∧TN wr g0 g1 xb pb);·exact⟨65,0,k,x.Nh,x.args,rfl,rfl,rfl,by omega,by omega,H0.2.2,H0.1,H0.2.1⟩
 obtain⟨f,n,J,f1,Y,c1,rfl,c4,c5,c6,a6,b3,b4⟩:=hrel;obtain⟨wo,b8⟩:=eQ wr;subst b8;cases f with
 |zero=>cases a6
 |succ f=>
 obtain⟨q1,q2,q3,q4,q5⟩:=Uv a6;have HS:=J2 b3 b4;have HQ:=J4 q1 q3 q4 q5;clear b3 b4 a6 q1 q3 q4 q5;go_wp2_with fail;refine(TC pb p A C J m 1 wo HS.1.par.pat hp).mono ?_;rintro e w1 ⟨rfl,a7⟩;rw[HQ.1];have R:=J2 (HS.1.all a7) (HS.2.kept a7 trivial trivial);clear a7;go_wp2_with fail;refine(To pb n 64 w1 q2).mono ?_;rintro e w2 ⟨rfl,rfl⟩;go_wp2_with fail;refine(Xo B pb xb p A C J m {x with Nh:=f1,args:=Y} w1 R.1.par R.1.Nb hp g0 g1 R.2 HQ.1 HQ.2.1 HQ.2.2.1 (by show Y.length≤_;omega) (by show f1.length≤_;omega)).mono ?_;rintro e w3 ⟨rfl,b5,b6⟩;have a8:=J2 (Ts R.1 b5) b6;clear b5 b6;go_wp2_with fail;refine(xt pb p A C (J+1+1+1) m 0 w3 a8.1.par.pat hp (by omega)).mono ?_;rintro e w4 ⟨rfl,b0⟩;rw[dj];have j:=J2 (a8.1.all b0) (a8.2.kept b0 trivial trivial);clear b0;by_cases o:p.txt (J+1+1+1)=Ym;·(
 have I:=HQ.2.2.2;rw[ap o] at I;have c7:=TM (p:=p) (k:=J+1+1+1) (by rw[o];decide);have b9:((p.txt (J+1+1+1)).toList==[44])=true:=by rw[TY _ _ Ym (by kernel_rfl),bL o]
 have HZ:=oH I;have b1:=j.1.par.box;have b2:=b1.cl 2;have f2:=b1.free 2;clear I o b1;go_wp2_with fail;go_roundg f
 ·have b7:wi pb p A C (J+1+1+1+1) m w4 (w4.setCell ⟨pb,2,none⟩ (.int .i64 ((J+1+1+1+1:Nat)))):=wi.of j.1.par.pat kR (by omega);refine⟨f,n+1,J+1+1+1+1,_,_,rfl,by go_num,by omega,?_,?_,HZ.out,?_,?_⟩;·rw[iQ];show f1.length+1≤_;omega
  ·rw[iQ];show Y.length+1≤_;omega
  ·simpa using j.1.moved b7
  simpa using j.2.kept b7.1 j.2.2.2.1 j.2.2.2.2
 omega)
 have I:=HQ.2.2.2;rw[ae o] at I;have b9:((p.txt (J+1+1+1)).toList==[44])=false:=by rw[TY _ _ Ym (by kernel_rfl),cI o]
 have HZ:=oH I;clear I o;go_wp2_with fail;have e:=HZ.out;injection e with e1 e2;injection e2 with e2 e3;subst e1;subst e2;subst e3;exact bodyPost_ret (results_none rfl _ _ _) rfl ⟨rfl,j.1,j.2⟩
theorem WW (B pb R:Nat)(p:cr)(A:Option Addr)(C k m k':Nat)(x:cX)(fr ar:List ByteArray)(w:World)(h:PB w B pb p A C k m)(hx:Uh w B R x)(hp:p.Ok)(hq:p.txt k=Yv)(hr:UH p 65 0 (k+1) x.Nh x.args=some (fr,ar,k'))(b0:p.txt k'=Yw)(hl:x.args.length≤100)(b1:x.Nh.length≤100):
 Calls prog 257 #[.pointer (some ⟨pb,0,none⟩),.pointer (some ⟨R,0,none⟩)] w (Ua B pb R p A C m (k'+1) {x with kind:=3,Nh:=fr,args:=ar} w):=by
 obtain⟨W0,j⟩:=eQ ((w.alloc (.cells #[.pointer (some ⟨pb,0,none⟩)] 100)).alloc (.cells #[.pointer (some ⟨R,0,none⟩)] 272));have a1:=zy j;have a6:TN W0 (w.heap.size+1) w.heap.size R pb:=by(
 rw[j];refine⟨?_,(al.new w _ _).alloc _,by have:=h.low;have:=h.size;omega,by have:=h.low;have:=h.size;omega⟩;have h1:(w.alloc (.cells #[.pointer (some ⟨pb,0,none⟩)] 100)).heap.size=w.heap.size+1:=by simp
 rw[←h1];exact al.new _ _ _)
 have Y:=J3 j ((St.first h hx).all a1) a6;clear h hx j a1 a6;go_enter func257,ntmps257;go_upto_region 1 with fail;rw[←Y.1];obtain⟨g0,o⟩:=eQ (w.heap.size+1);obtain⟨g1,I⟩:=eQ w.heap.size;have HB:=oH (show TN W0 g0 g1 R pb by rw[o,I];exact Y.2.2);rw[←o,←I];have HG:=J2 o I;clear o I;have c0:=HB.1.cl 0;obtain⟨u0,b2⟩:=Y.2.1.Nb.cellAt 0 (by decide);have b3:=Y.2.1.Nb.free 0;go_upto_region 2 with fail;have J:=oH (HB.out.set Y.2.1.Nb 0 (.int .u8 3));have h2:=Y.2.1.set 0 (.int .u8 3) (x':= {x with kind:=3}) rfl rfl (fun _ _=>rfl);generalize W0.setCell _ _=W1 at*;have H1:=oH h2;clear h2 c0 b2 b3;have c1:=J.2.1.cl 0;go_wp2_with fail;refine(Ar pb p A C k m ⟨#[91]⟩ W1 H1.out.par.pat hp hq (by decide)).mono ?_;rintro e W2 ⟨rfl,hm⟩;have H2:=J2 (H1.out.moved hm) (J.out.kept hm.1 J.2.2.1 J.2.2.2);clear hm c1;have c1:=H2.2.2.1.cl 0;go_wp2_with fail;refine(WR B pb R g0 g1 p A C (k+1) m k' {x with kind:=3} fr ar W2 H2.1.par H2.1.Nb H2.2 hp hr hl b1).mono ?_;rintro e W3 ⟨rfl,a7,a8⟩;have H3:=J2 (Ts H2.1 a7) a8;clear a7 a8 c1;have c1:=H3.2.2.1.cl 0;go_wp2_with fail;refine(Ar pb p A C k' m ⟨#[93]⟩ W3 H3.1.par.pat hp b0 (by decide)).mono ?_;rintro e W4 ⟨rfl,hm⟩;have H4:=oH (H3.1.moved hm);clear hm c1;go_wp2_with fail
 go_end0
 exact⟨rfl,H4.out⟩
section
open Go.RowKit Go.WideMaps Go.Maps
abbrev mx:=List (ByteArray×Value)
def Uq (l:mx):Array MapEntry:=(l.zipIdx.map fun(x,n)=>⟨.string x.1,x.2,n⟩).toArray
def TH (l:mx)(a:ByteArray):Option Value:=(l.find? fun x=>a==x.1).map (·.2)
theorem qbO (a:ByteArray)(l:mx)(n m:Nat):
 Instr.findNow .string (.string a) (l.zipIdx m|>.map fun(x,n)=>(⟨.string x.1,x.2,n⟩:MapEntry)) n=some ((l.findIdx? fun x=>a==x.1).bind fun i=>(TH l a).map fun f=>(n+i,f)):=by
 induction l generalizing n m with
 |nil=>rfl
 |cons x l j=>
  simp only[List.zipIdx_cons,List.map_cons,Instr.findNow,Instr.sameNow,TH,List.find?_cons,List.findIdx?_cons];cases h:a==x.1;·simp only[j,TH];cases l.findIdx? fun x=>a==x.1<;>simp;cases l.find? fun x=>a==x.1<;>simp;omega
  simp
theorem Vl (w:World)(a:ByteArray)(l:List MapEntry)(r)(h:Instr.findNow .string (.string a) l 0=some r):
 (Instr.findKey 9 (.string a) l).run prog w=.ok r w:=by
 unfold Instr.findKey;simp[run_underlying underlying9,h]
theorem WJ (l:mx)(k:ByteArray)(f:Value):(Uq l).push ⟨.string k,f,l.length⟩=Uq (l++[(k,f)]):=by simp[Uq,List.zipIdx_append]
def Tn (w:World)(b:Nat)(l:mx):Prop:=w.heap[b]? =some (.map (Uq l) l.length)
def zs (w:World)(b:Nat)(l:mx):World:= {w with heap:=w.heap.setIfInBounds b (.map (Uq l) l.length)}
theorem Tn.lt {w:World}{b:Nat}{l:mx}(h:Tn w b l):b<w.heap.size:=(mV.1 h).1
theorem Tn.set {w:World}{b:Nat}{l:mx}(h:Tn w b l)(j:mx):Tn (zs w b j) b j:=by have:=h.lt;simp[Tn,zs,this]
theorem Tn.kept {w w':World}{b:Nat}{l:mx}(h:Tn w b l)(k:aa All w w'):Tn w' b l:=by unfold Tn;rw[k.block b h.lt trivial];exact h
theorem Wj (w:World)(b:Nat)(l j:mx):zs (zs w b l) b j=zs w b j:=by simp[zs,Array.setIfInBounds_setIfInBounds]
theorem TD {S:Nat→Prop}{w w':World}{b:Nat}{l:mx}(h:aa S w w')(I:w.heap.size≤b):aa S w (zs w' b l):=by
 refine⟨h.os,h.output,by simpa [zs] using h.size,fun k o C=>?_⟩;have j:b≠k:=by omega
 rw[←h.block k o C];simp[zs,Array.getElem?_setIfInBounds_ne j]
theorem Xq {W:World}{b:Nat}{l:mx}(k:ByteArray)(f:Value)(C:k.size≤maxLen)(h:(l.findIdx? fun x=>k==x.1)=none)(I:Tn W b l):
 (Instr.mapUpdate 270 (.map (some b)) (.string k) f).run prog W=.ok () (zs W b (l++[(k,f)])):=by
 have J:=Vl W k (Uq l).toList none (by have:=qbO k l 0 0;rw[h] at this;simpa [Uq] using this);have o:=Gm.check W false (keyOf_string_mk underlying9 C);have j:W.heap[b]? =some (.map (Uq l) l.length):=I;unfold Instr.mapUpdate;simp[run_underlying underlying270,MapKept.run_getObj_map j,o,J,MapKept.run_setObj_map _ j,Result.andThen,WJ,zs]
theorem Ux {w:World}{l:mx}{b:Nat}(k:ByteArray)(J:k.size≤maxLen)(R:Tn w b l):
 (Instr.lookup 270 (.map (some b)) (.string k) false).run prog w=.ok ((TH l k).getD .nilFunc) w:=by
 have j:=Vl w k (Uq l).toList _ (by have:=qbO k l 0 0;simpa [Uq] using this);have o:=Gm.check w (Uq l).isEmpty (keyOf_string_mk underlying9 J);have C:w.heap[b]? =some (.map (Uq l) l.length):=R;have Y:(zeroValue 269).run prog w=.ok .nilFunc w:=by kernel_rfl
 unfold Instr.lookup;simp[run_underlying underlying270,MapKept.run_getObj_map C,o,j,Result.andThen];cases h:l.findIdx? fun x=>k==x.1 with
 |none=>
  have:TH l k=none:=by rw[List.findIdx?_eq_none_iff] at h;simp only[TH,Option.map_eq_none_iff,List.find?_eq_none];intro x hx;simp[h x hx]
  simp[this,Y]
 |some i=>
  obtain⟨f,j⟩:∃f,TH l k=some f:=by(
 rw[List.findIdx?_eq_some_iff_getElem] at h;obtain⟨hi,hk,_⟩:=h;cases I:l.find? fun x=>k==x.1 with
 |none=>exact absurd hk (List.find?_eq_none.1 I _ (eL hi))
 |some f=>exact⟨f.2,by simp[TH,I]⟩)
  simp[j]
end
def UN:mx:=[(⟨#[115,116,111,114,101]⟩,.func (.func 225) #[] #[]),(⟨#[111,117,116,112,117,116]⟩,.func (.func 226) #[] #[]),(⟨#[106,117,109,112]⟩,.func (.func 227) #[] #[]),(⟨#[98,114,97,110,99,104]⟩,.func (.func 228) #[] #[]),(⟨#[114,101,116,117,114,110]⟩,.func (.func 229) #[] #[])]
def Tz (g4 g5:Nat):mx:=[(⟨#[99,111,110,115,116]⟩,.func (.func 253) #[] #[]),(⟨#[108,111,97,100]⟩,.func (.func 252) #[] #[.pointer (some ⟨g4,0,none⟩)]),(⟨#[119,114,97,112]⟩,.func (.func 252) #[] #[.pointer (some ⟨g5,0,none⟩)]),(⟨#[105,110,112,117,116]⟩,.func (.func 254) #[] #[]),(⟨#[99,97,108,108]⟩,.func (.func 255) #[] #[]),(⟨#[114,101,108,101,97,115,101]⟩,.func (.func 256) #[] #[]),(⟨#[112,104,105]⟩,.func (.func 257) #[] #[])]
theorem Hp {W:World}{b:Nat}{o:mx}(tab:mx)(i:Nat)(k:ByteArray)(f:Value)(hi:tab[i]? =some (k,f))(j:((tab.take i).findIdx? fun x=>k==x.1)=none)(C:k.size≤maxLen)(I:Tn W b o):
 (Instr.mapUpdate 270 (.map (some b)) (.string k) f).run prog (zs W b (tab.take i))=.ok () (zs W b (tab.take (i+1))):=by
 have h:=Xq k f C j (I.set (tab.take i));rw[Wj] at h;rw[cU,hi];exact h
theorem TL {W:World}{b:Nat}{l:mx}(h:Tn W b l):zs W b l=W:=by
 unfold zs;have:W.heap.setIfInBounds b (.map (Uq l) l.length)=W.heap:=by(
 apply Array.ext_getElem?;intro i;rw[Array.getElem?_setIfInBounds];split
 ·rename_i e
  subst e;rw[ap h.lt];exact h.symm
 rfl)
 rw[this]
theorem VK (w:World):(Instr.makeMap 270 none).run prog w=.ok (.map (some w.heap.size)) (w.alloc (.map #[] 0)):=by kernel_rfl
theorem Vg (w:World):Tn (w.alloc (.map #[] 0)) w.heap.size []:=by show(w.heap.push (.map #[] 0))[w.heap.size]? =_;simp[Uq]
theorem WV (w:World):Calls prog 195 #[] w fun e w'=>∃b,e=.returned (.map (some b))∧Tn w' b UN∧aa All w w':=by
 have hm:=VK w;have j:=Vg w;have J:aa All w (w.alloc (.map #[] 0)):=kR.alloc _;have o:=TL j;obtain⟨b,R⟩:=eQ w.heap.size;have C:w.heap.size≤b:=by omega
 rw[←R] at hm j o;generalize w.alloc (.map #[] 0)=W at*;have Y:=Hp UN 0 ⟨#[115,116,111,114,101]⟩ (.func (.func 225) #[] #[]) rfl rfl (by decide) j;rw[show UN.take 0=[] from rfl,o] at Y;have u1:=Hp UN 1 ⟨#[111,117,116,112,117,116]⟩ (.func (.func 226) #[] #[]) rfl rfl (by decide) j;have u2:=Hp UN 2 ⟨#[106,117,109,112]⟩ (.func (.func 227) #[] #[]) rfl rfl (by decide) j;have u3:=Hp UN 3 ⟨#[98,114,97,110,99,104]⟩ (.func (.func 228) #[] #[]) rfl rfl (by decide) j;have u4:=Hp UN 4 ⟨#[114,101,116,117,114,110]⟩ (.func (.func 229) #[] #[]) rfl rfl (by decide) j;have I:=J3 J (j.set (UN.take 5)) C;clear J j o R C;go_enter func195,ntmps195;go_wp2;go_ret;exact⟨b,rfl,I.2.1,TD I.1 I.2.2⟩
end Go.Proofs.YtgdlhckhpolnnaaGreatDoor
