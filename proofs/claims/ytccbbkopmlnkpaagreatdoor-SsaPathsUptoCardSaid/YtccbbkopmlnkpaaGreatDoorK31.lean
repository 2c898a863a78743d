/- Part 32 of the proof (its last part says what is proved). No condition. -/
import Derived.Test.YtccbbkopmlnkpaaGreatDoorK6
import Derived.Test.YtccbbkopmlnkpaaGreatDoorK30
namespace Go.Proofs.YtccbbkopmlnkpaaGreatDoor
set_option maxRecDepth 100000
set_option maxHeartbeats 8000000
open Go.RowKit Go.Proofs.Tryz
structure aL.Ok (p:aL):Prop where
 size:p.s.size≤65536
 len:p.l.length≤65537
 tok:∀t∈p.l,t.beg≤t.fin∧t.fin≤p.s.size∧t.kind<256
 plain:dD p.s=true
 word:∀t∈p.l,t.kind=1→fu (p.s.extract t.beg t.fin)=false
structure pe (w:World)(pb:Nat)(p:aL)(A:Option Addr)(C:Nat)(k m:Nat):Prop where
 box:al w pb 140 #[.string p.s,.slice A p.l.length C,.int .i64 k,.int .i64 m]
 toks:Ct (fun b=>b≠pb∧b<w.heap.size) w (.slice A p.l.length C) p.l
 le:k≤p.l.length
theorem pe.keep {w o:World}{pb:Nat}{p:aL}{A:Option Addr}{C k m:Nat}(h:pe w pb p A C k m)(j:aa All w o):pe o pb p A C k m:=
 ⟨h.box.kept j trivial,bW.wide (fun b I=>⟨I.1,by have:=j.size;omega⟩) (bW.keep j.all h.toks),h.le⟩
theorem pe.move {w:World}{pb:Nat}{p:aL}{A:Option Addr}{C k m:Nat}(h:pe w pb p A C k m){k':Nat}(o:k'≤p.l.length):pe (w.setCell ⟨pb,2,none⟩ (.int .i64 k')) pb p A C k' m:=
 ⟨by simpa using h.box.set 2 (.int .i64 k'),bW.wide (fun b j=>⟨j.1,by simpa using j.2⟩) (bW.keep ((aa.refl (fun b=>b≠pb∧b<w.heap.size) w).setCell (.inl fun h=>h.1 rfl) _) h.toks),o⟩
theorem dS (pb:Nat)(p:aL)(A:Option Addr)(C k m a:Nat)(w:World)(h:pe w pb p A C k m)(I:p.Ok)(ha:a≤10):
 Calls prog 76 #[.pointer (some ⟨pb,0,none⟩),.int .i64 a] w fun e w'=>e=.returned (.string (p.txt (k+a)))∧aa All w w':=by
 obtain⟨b0,b1,b2⟩:=h.box.c3;have a6:=h.le;have a1:=I.len;obtain⟨n,o⟩:=eQ p.l.length;have a7:n≤p.l.length:=dY o;have a8:p.l.length≤n:=dY o.symm;by_cases b3:k+a<n
 ·obtain⟨t,J⟩:∃t,p.l[k+a]? =some t:=⟨_,lG (by omega)⟩;obtain⟨tb,b4,b5,rfl,_,_,R,hE⟩:=bh h.toks J;cases hE;have c1:=R 1 _ rfl;have c2:=R 2 _ rfl;have Y:=I.tok t (mG J);have j:p.txt (k+a)=p.s.extract t.beg t.fin:=by unfold aL.txt;rw[J]
  have HT:=oH j;have v1:=Y.1;have v2:=Y.2.1;rw[←o] at b1;clear R J h I Y j o;go_enter func76,ntmps76;go_wp2_with fail;go_quiet (fail);go_wp2_with fail;go_ret;exact⟨by rw[HT.out];rfl,kR.drewN _⟩
 have j:p.txt (k+a)=dQ:=by unfold aL.txt;rw[kS (by omega)]
 have HT:=oH j;rw[←o] at b1;clear h I j o;go_enter func76,ntmps76;go_wp2_with fail;go_ret;exact⟨by rw[HT.out];rfl,kR⟩
theorem wP (pb:Nat)(p:aL)(A:Option Addr)(C k m:Nat)(w:World)(h:pe w pb p A C k m)(I:p.Ok):
 Calls prog 122 #[.pointer (some ⟨pb,0,none⟩)] w fun e w'=>e=.returned (.int .i64 (p.pos k))∧aa All w w':=by
 obtain⟨b0,Y,b2⟩:=h.box.c3;have a6:=h.le;have a1:=I.len;obtain⟨n,o⟩:=eQ p.l.length;have a7:n≤p.l.length:=dY o;have a8:p.l.length≤n:=dY o.symm;by_cases b3:k<n
 ·obtain⟨t,J⟩:∃t,p.l[k]? =some t:=⟨_,lG (by omega)⟩;obtain⟨tb,b4,b5,rfl,_,_,hc,hE⟩:=bh h.toks J;cases hE;have c1:=hc 1 _ rfl;have j:p.pos k=t.beg:=by unfold aL.pos;rw[J]
  have R:=oH j;rw[←o] at Y;clear hc J h I j o;go_enter func122,ntmps122;go_wp2_with fail;go_quiet (fail);go_wp2_with fail;go_quiet (fail);go_wp2_with fail;go_ret;exact⟨by rw[R.out];rfl,((kR.drewN _).drewN _)⟩
 have j:p.pos k=p.s.size:=by unfold aL.pos;rw[kS (by omega)]
 have R:=oH j;rw[←o] at Y;clear h I j o;go_enter func122,ntmps122;go_wp2_with fail;go_quiet (fail);go_wp2_with fail;go_ret;exact⟨by rw[R.out];rfl,kR.drewN _⟩
theorem km (pb:Nat)(p:aL)(A:Option Addr)(C k m q:Nat)(w:World)(h:pe w pb p A C k m)(J:p.Ok):
 Calls prog 124 #[.pointer (some ⟨pb,0,none⟩),.int .u8 q] w fun e w'=>e=.returned (.bool (p.is k q))∧aa All w w':=by
 obtain⟨b0,b1,b2⟩:=h.box.c3;have a6:=h.le;have a1:=J.len;obtain⟨n,o⟩:=eQ p.l.length;have a7:n≤p.l.length:=dY o;have a8:p.l.length≤n:=dY o.symm;by_cases I:k<n
 ·obtain⟨t,R⟩:∃t,p.l[k]? =some t:=⟨_,lG (by omega)⟩;obtain⟨tb,b3,b4,rfl,_,_,hc,hE⟩:=bh h.toks R;cases hE;have c0:=hc 0 _ rfl;rw[cJ] at c0;have j:p.is k q=(t.kind==q):=by unfold aL.is;rw[R]
  have Y:=oH j;have hd:decide ((k:Int)<(n:Int))=true:=by simpa using I
  rw[←o] at b1;clear hc R h J j o;go_enter func124,ntmps124;go_wp2_with fail;go_quiet (fail);go_wp2_with fail;go_ret;exact⟨by rw[Y.out,show(t.kind==q)=((t.kind:Int)==(q:Int)) by rw[Bool.eq_iff_iff,cX,cX];omega];rfl,kR.drewN _⟩
 have j:p.is k q=false:=by unfold aL.is;rw[kS (by omega)]
 have Y:=oH j;have hd:decide ((k:Int)<(n:Int))=false:=by simpa using I
 rw[←o] at b1;clear h J j o;go_enter func124,ntmps124;go_wp2_with fail;go_quiet (fail);go_wp2_with fail;go_ret;exact⟨by rw[Y.out];rfl,kR.drewN _⟩
theorem gY (pb n q:Nat)(w:World)(o:n<q):
 Calls prog 77 #[.pointer (some ⟨pb,0,none⟩),.int .i64 n,.int .i64 q] w fun e j=>e=.returned (.tuple #[])∧w=j:=by
 go_enter func77,ntmps77;go_wp2
 go_end0
 exact⟨rfl,rfl⟩
def dm (pb:Nat)(p:aL)(A:Option Addr)(C k' m:Nat)(w w':World):Prop:=aa (fun b=>b≠pb) w w'∧pe w' pb p A C k' m
theorem dm.of {pb:Nat}{p:aL}{A:Option Addr}{C k m:Nat}{w j:World}(h:pe j pb p A C k m)(I:aa (fun b=>b≠pb) w j){k':Nat}(o:k'≤p.l.length):dm pb p A C k' m w (j.setCell ⟨pb,2,none⟩ (.int .i64 k')):=
 ⟨I.setCell (.inl fun h=>h rfl) _,h.move o⟩
theorem nh (x:ByteArray)(l:List UInt8)(y:ByteArray)(h:y.toList=l):(x.toList==l)=decide (x=y):=by rw[Bool.eq_iff_iff,decide_eq_true_iff,←h];exact bn
theorem FZ {p:aL}{k q:Nat}(h:p.is k q=true):k<p.l.length:=by
 unfold aL.is at h;cases j:p.l[k]? with
 |none=>rw[j] at h;cases h
 |some t=>exact(lS.1 j).1
theorem lX {p:aL}{k:Nat}(h:p.txt k≠dQ):k<p.l.length:=by
 unfold aL.txt at h;cases j:p.l[k]? with
 |none=>rw[j] at h;exact absurd rfl h
 |some t=>exact(lS.1 j).1
theorem vG (pb:Nat)(p:aL)(A:Option Addr)(C k m q:Nat)(w:World)(h:pe w pb p A C k m)(Y:p.Ok)(hq:p.is k q=true):
 Calls prog 192 #[.pointer (some ⟨pb,0,none⟩),.int .u8 q] w fun e w'=>e=.returned (.string (p.txt k))∧dm pb p A C (k+1) m w w':=by
 have HI:=oH (km pb p A C k m q w h Y);have HT:=oH (fun R (hk:aa All w R)=>dS pb p A C k m 0 R (h.keep hk) Y (by omega));have a6:=FZ hq;have a1:=Y.len;have H:=oH h;have HQ:=oH hq;clear h hq;go_enter func192,ntmps192;go_wp2_with fail;refine HI.out.mono ?_;rintro e R ⟨rfl,o⟩;rw[HQ.out];have I:=oH o;clear o;go_wp2_with fail;refine(HT.out R I.out).mono ?_;rintro e w2 ⟨rfl,J⟩;have j:=oH (I.out.trans J);clear J;have hb:=(H.out.keep j.out).box;have b2:=hb.cell 2;have f2:=hb.free 2;simp only[gc] at b2;clear hb;go_wp2_with fail;go_ret;exact⟨rfl,by simpa using dm.of (H.out.keep j.out) j.out.all (k':=k+1) (by omega)⟩
theorem dE (pb:Nat)(p:aL)(A:Option Addr)(C k m:Nat)(w:World)(h:pe w pb p A C k m)(I:p.Ok)(J:p.is k 1=true):
 Calls prog 123 #[.pointer (some ⟨pb,0,none⟩)] w fun e R=>e=.returned (.string (p.txt k))∧dm pb p A C (k+1) m w R:=by
 have Y:=oH (vG pb p A C k m 1 w h I J);go_enter func123,ntmps123;go_wp2_with fail;refine Y.out.mono ?_;rintro e w1 ⟨rfl,j⟩;have o:=oH j;clear j;go_wp2_with fail;go_ret;exact⟨rfl,o.out⟩
theorem fm (pb:Nat)(p:aL)(A:Option Addr)(C k m:Nat)(s:ByteArray)(w:World)(h:pe w pb p A C k m)(R:p.Ok)(I:p.txt k=s)(Y:s≠dQ):
 Calls prog 127 #[.pointer (some ⟨pb,0,none⟩),.string s] w fun e w'=>e=.returned (.tuple #[])∧dm pb p A C (k+1) m w w':=by
 have HT:=oH (dS pb p A C k m 0 w h R (by omega));have a6:=lX (p:=p) (k:=k) (by rw[I];exact Y);have a1:=R.len;have H:=oH h;have HQ:=oH I;clear h I Y;go_enter func127,ntmps127;go_wp2_with fail;refine HT.out.mono ?_;rintro e w1 ⟨rfl,o⟩;rw[cJ,HQ.out];have j:=oH o;clear o;have J:=(H.out.keep j.out).box;have b2:=J.cell 2;have f2:=J.free 2;simp only[gc] at b2;clear J;go_wp2_with fail
 go_end0
 exact⟨rfl,by simpa using dm.of (H.out.keep j.out) j.out.all (k':=k+1) (by omega)⟩
theorem mV (pb:Nat)(p:aL)(A:Option Addr)(C k m:Nat)(w:World)(h:pe w pb p A C k m)(hp:p.Ok):
 Calls prog 129 #[.pointer (some ⟨pb,0,none⟩)] w fun e w'=>e=.returned (.bool (ig p k))∧aa All w w':=by
 have R:=oH (km pb p A C k m 1 w h hp);have HT:=oH (fun I (hk:aa All w I)=>dS pb p A C k m 1 I (h.keep hk) hp (by omega));unfold ig;cases Y:p.is k 1 with
 |false=>rw[Y] at R;clear Y;go_enter func129,ntmps129;go_wp2_with fail;refine R.out.mono ?_;rintro e I ⟨rfl,j⟩;have o:=oH j;clear j;go_wp2_with fail;go_ret;exact⟨rfl,o.out⟩
 |true=>rw[Y] at R;clear Y;go_enter func129,ntmps129;go_wp2_with fail;refine R.out.mono ?_;rintro e I ⟨rfl,j⟩;have o:=oH j;clear j;go_wp2_with fail;refine(HT.out I o.out).mono ?_;rintro e w2 ⟨rfl,J⟩;have a1:=oH (o.out.trans J);clear J;go_wp2_with fail;go_ret;exact⟨by rw[Bool.true_and,←nh (p.txt (k+1)) [58] Kb (by kernel_rfl)];rfl,a1.out⟩
section
structure PB (w:World)(B pb:Nat)(p:aL)(A:Option Addr)(C k m:Nat):Prop where
 box:al w pb 140 #[.string p.s,.slice A p.l.length C,.int .i64 k,.int .i64 m]
 toks:Ct (fun b=>b≠pb∧b<B) w (.slice A p.l.length C) p.l
 low:pb<B
 size:B≤w.heap.size
 le:k≤p.l.length
theorem PB.pat {w:World}{B pb:Nat}{p:aL}{A:Option Addr}{C k m:Nat}(h:PB w B pb p A C k m):pe w pb p A C k m:=
 ⟨h.box,bW.wide (fun b j=>⟨j.1,by have:=h.size;omega⟩) h.toks,h.le⟩
theorem pe.pb {w:World}{pb:Nat}{p:aL}{A:Option Addr}{C k m:Nat}(h:pe w pb p A C k m):PB w w.heap.size pb p A C k m:=
 ⟨h.box,h.toks,h.box.lt,bj _,h.le⟩
theorem PB.moved {w j:World}{B pb:Nat}{p:aL}{A:Option Addr}{C k k' m o:Nat}(h:PB w B pb p A C k m)(hm:dm pb p A C k' o w j):PB j B pb p A C k' o:=
 ⟨hm.2.box,bW.keep (hm.1.mono fun _ I=>I.1) h.toks,h.low,dA h.size hm.1.size,hm.2.le⟩
theorem PB.kept {w o:World}{B pb:Nat}{p:aL}{A:Option Addr}{C k m:Nat}{S:Nat→Prop}(h:PB w B pb p A C k m)(j:aa S w o)(I:∀b,b<B→S b):PB o B pb p A C k m:=
 ⟨h.box.kept j (I _ h.low),bW.keep (j.mono fun _ J=>I _ J.2) h.toks,h.low,dA h.size j.size,h.le⟩
def Wm (pb B i:Nat):Prop:=i≠pb∧i<B
abbrev jw (B:Nat)(w:World)(v:Value)(l:List ByteArray):Prop:=w.ownsRow B 9 1 v l.length (l.map Value.string)
def om (w:World)(B xb:Nat)(x:aB):Prop:=∃(aA:Option Addr) (aC:Nat) (fA:Option Addr) (fC:Nat),
 al w xb 185 #[.int .u8 x.kind,.int .u8 x.op,.string x.dst,.string x.ref,.string x.No,.slice aA x.args.length aC,.slice fA x.Nn.length fC,.int .i64 x.num,.int .i64 x.Np]∧
 jw B w (.slice aA x.args.length aC) x.args∧jw B w (.slice fA x.Nn.length fC) x.Nn∧(∀b,(Value.slice aA x.args.length aC).ownBlock=some b→(Value.slice fA x.Nn.length fC).ownBlock≠some b)∧B≤xb
theorem qB {w:World}{base:Nat}{t:TypeId}{size n:Nat}{v:Value}{xs:List Value}(h:w.ownsRow base t size v n xs){g:Nat}(j:v.ownBlock=some g):∃cs o,w.heap[g]? =some (.cells cs t o):=by
 rcases h.2 with ⟨rfl,_⟩|⟨g2,cap,cur,rfl,_,C,_⟩;·cases j
 cases j;exact⟨_,_,C⟩
theorem tq {w:World}{base g:Nat}{t o:TypeId}{size n:Nat}{v:Value}{xs:List Value}{cs:Array Value}(h:w.ownsRow base t size v n xs){b:Nat}(C:v.ownBlock=some b)(I:al w g o cs)(J:t≠o):b≠g:=by obtain⟨R,Y,j⟩:=qB h C;rintro rfl;rw[show w.heap[b]? =_ from I] at j;injection j with j;injection j with _ j;exact J j.symm
theorem cm {w:World}{B g n:Nat}{t:TypeId}{v:Value}{xs:List Value}{cs:Array Value}(h:w.ownsRow B 9 1 v n xs)(b:al w g t cs)(j:t≠9):v.ownBlock≠some g:=fun e=>(tq h e b (Ne.symm j)) rfl
theorem om.put_args {w:World}{B C:Nat}{x:aB}{j aA I:Option Addr}{o aC J:Nat}{s:ByteArray}
 (R:al w C 185 #[.int .u8 x.kind,.int .u8 x.op,.string x.dst,.string x.ref,.string x.No,.slice aA x.args.length aC,.slice I x.Nn.length J,.int .i64 x.num,.int .i64 x.Np])
 (hr:w.ownsRow B 9 1 (.slice j (x.args.length+1) o) (x.args.length+1) (x.args.map Value.string++[.string s])) (hf:jw B w (.slice I x.Nn.length J) x.Nn)
 (hs:∀b,(Value.slice j (x.args.length+1) o).ownBlock=some b→(Value.slice I x.Nn.length J).ownBlock≠some b) (hB:B≤C):
 om (w.setCell ⟨C,5,none⟩ (.slice j (x.args.length+1) o)) B C {x with args:=x.args++[s]}:=by
 have k:aa (fun b=>b≠C) w (w.setCell ⟨C,5,none⟩ (.slice j (x.args.length+1) o)):=kR.setCell (.inl fun h=>h rfl) _;have h1:=ay hr k fun g Y=>by rintro rfl;exact cm hr R (by decide) Y
 have h2:=ay hf k fun g Y=>by rintro rfl;exact cm hf R (by decide) Y
 have h3:=R.set 5 (.slice j (x.args.length+1) o);simp only[ga] at h3;have hl:(x.args++[s]).length=x.args.length+1:=by simp
 refine⟨j,o,I,J,?_,?_,h2,?_,hB⟩
 ·show al _ _ _ #[_,_,_,_,_,.slice j (x.args++[s]).length o,_,_,_]
  rw[hl];exact h3
 ·show jw B _ (.slice j (x.args++[s]).length o) (x.args++[s])
  unfold jw;rw[hl,gU];exact h1
 show∀b,(Value.slice j (x.args++[s]).length o).ownBlock=some b→_;rw[hl];exact hs
theorem om.put_frm {w:World}{B C:Nat}{x:aB}{j I fA:Option Addr}{o J fC:Nat}{s:ByteArray}
 (R:al w C 185 #[.int .u8 x.kind,.int .u8 x.op,.string x.dst,.string x.ref,.string x.No,.slice I x.args.length J,.slice fA x.Nn.length fC,.int .i64 x.num,.int .i64 x.Np])
 (hr:w.ownsRow B 9 1 (.slice j (x.Nn.length+1) o) (x.Nn.length+1) (x.Nn.map Value.string++[.string s])) (hf:jw B w (.slice I x.args.length J) x.args)
 (hs:∀b,(Value.slice j (x.Nn.length+1) o).ownBlock=some b→(Value.slice I x.args.length J).ownBlock≠some b) (hB:B≤C):
 om (w.setCell ⟨C,6,none⟩ (.slice j (x.Nn.length+1) o)) B C {x with Nn:=x.Nn++[s]}:=by
 have k:aa (fun b=>b≠C) w (w.setCell ⟨C,6,none⟩ (.slice j (x.Nn.length+1) o)):=kR.setCell (.inl fun h=>h rfl) _;have Y:=ay hr k fun g hg=>by rintro rfl;exact cm hr R (by decide) hg
 have h2:=ay hf k fun g hg=>by rintro rfl;exact cm hf R (by decide) hg
 have h3:=R.set 6 (.slice j (x.Nn.length+1) o);simp only[ga] at h3;have hl:(x.Nn++[s]).length=x.Nn.length+1:=by simp
 refine⟨I,J,j,o,?_,h2,?_,?_,hB⟩
 ·show al _ _ _ #[_,_,_,_,_,_,.slice j (x.Nn++[s]).length o,_,_]
  rw[hl];exact h3
 ·show jw B _ (.slice j (x.Nn++[s]).length o) (x.Nn++[s])
  unfold jw;rw[hl,gU];exact Y
 show∀b,_→(Value.slice j (x.Nn++[s]).length o).ownBlock≠some b;rw[hl];exact fun b Y h2=>hs b h2 Y
theorem rJ {v u f:Value}{n:Nat}{B:Nat}{W:World}{xs:List Value}(C:W.ownsRow B 9 1 f n xs)(I:∀b,v.ownBlock=some b→f.ownBlock≠some b){m:Nat}(hm:W.heap.size≤m)(h:u.ownBlock=v.ownBlock∨∀g,u.ownBlock=some g→m≤g):∀b,u.ownBlock=some b→f.ownBlock≠some b:=by
 intro b o;rcases h with h|h;·exact I b (h▸o)
 intro j;have:=(au C j).2;have:=h b o;omega
theorem om.cellAt {w:World}{B o:Nat}{x:aB}(h:om w B o x)(j:Nat)(C:j<9):∃u,w.cell? ⟨o,j,none⟩=some u:=by obtain⟨J,R,Y,fC,I,_⟩:=h;rw[I.cell j];exact⟨_,Array.getElem?_eq_getElem (by simpa using C)⟩
theorem om.free {w:World}{B o:Nat}{x:aB}(h:om w B o x)(j:Nat):w.frozen? ⟨o,j,none⟩=false:=by obtain⟨I,J,R,Y,C,_⟩:=h;exact C.free j
theorem om.kept {w Y:World}{B C:Nat}{x:aB}{S:Nat→Prop}(h:om w B C x)(k:aa S w Y)(h1:S C)(h2:∀b cs j,B≤b→w.heap[b]? =some (.cells cs 9 j)→S b):om Y B C x:=by obtain⟨aA,aC,fA,fC,hb,I,J,hs,hB⟩:=h;exact⟨aA,aC,fA,fC,hb.kept k h1,ay I k fun g o=>by obtain⟨cs,j,R⟩:=qB I o;exact h2 g cs j (au I o).1 R,ay J k fun g o=>by obtain⟨cs,j,R⟩:=qB J o;exact h2 g cs j (au J o).1 R,hs,hB⟩
theorem om.set {w:World}{B o:Nat}{x x':aB}(h:om w B o x)(j:Nat)(v:Value)(C:x'.args=x.args)(I:x'.Nn=x.Nn)
 (hc:∀a f:Value,([.int .u8 x.kind,.int .u8 x.op,.string x.dst,.string x.ref,.string x.No,a,f,.int .i64 x.num,.int .i64 x.Np]:List Value).set j v=[.int .u8 x'.kind,.int .u8 x'.op,.string x'.dst,.string x'.ref,.string x'.No,a,f,.int .i64 x'.num,.int .i64 x'.Np]):om (w.setCell ⟨o,j,none⟩ v) B o x':=by
 have k:aa (fun b=>b≠o) w (w.setCell ⟨o,j,none⟩ v):=kR.setCell (.inl fun h=>h rfl) _;obtain⟨aA,aC,fA,fC,J,Y,rf,hs,hB⟩:=h;have h1:=ay Y k fun g R=>by rintro rfl;exact cm Y J (by decide) R
 have h2:=ay rf k fun g R=>by rintro rfl;exact cm rf J (by decide) R
 have h3:=J.set j v;rw[List.setIfInBounds_toArray,hc] at h3;refine⟨aA,aC,fA,fC,?_,?_,?_,?_,hB⟩;·rw[C,I];exact h3
 ·rw[C];exact h1
 ·rw[I];exact h2
 rw[C,I];exact hs
structure St (w0:World)(B pb xb:Nat)(p:aL)(A:Option Addr)(C m:Nat)(k:Nat)(x:aB)(w:World):Prop where
 kept:aa (Wm pb B) w0 w
 par:PB w B pb p A C k m
 Ni:om w B xb x
section
variable {w0 w w':World} {B pb xb:Nat} {p:aL} {A:Option Addr} {C m k k':Nat} {x x':aB}
theorem St.first (h:PB w B pb p A C k m)(j:om w B xb x):St w B pb xb p A C m k x w:=⟨kR,h,j⟩
theorem St.ne (h:St w0 B pb xb p A C m k x w):xb≠pb:=by obtain⟨o,I,J,R,j,_⟩:=h.Ni;exact j.ne h.par.box (by decide)
theorem St.moved {o:Nat}(h:St w0 B pb xb p A C m k x w)(hm:dm pb p A C k' o w w'):St w0 B pb xb p A C o k' x w':=by refine⟨h.kept.trans (hm.1.mono fun _ I=>I.1),h.par.moved hm,h.Ni.kept hm.1 h.ne fun b cs J _ j e=>?_⟩;subst e;rw[show w.heap[b]? =_ from h.par.box] at j;injection j with j;injection j with _ j;exact absurd j (by decide)
theorem St.all (h:St w0 B pb xb p A C m k x w)(j:aa All w w'):St w0 B pb xb p A C m k x w':=
 ⟨h.kept.trans j.all,h.par.kept j fun _ _=>trivial,h.Ni.kept j trivial fun _ _ _ _ _=>trivial⟩
theorem iz (h:St w0 B pb xb p A C m k x w)(h':St w B pb xb p A C m k' x' w'):St w0 B pb xb p A C m k' x' w':=⟨h.kept.trans h'.kept,h'.par,h'.Ni⟩
theorem om.low (h:om w B xb x):B≤xb:=by obtain⟨o,I,J,R,Y,ra,rf,hs,j⟩:=h;exact j
theorem St.set (h:St w0 B pb xb p A C m k x w)(j:Nat)(v:Value)(J:x'.args=x.args)(R:x'.Nn=x.Nn)
 (Y:∀a f:Value,([.int .u8 x.kind,.int .u8 x.op,.string x.dst,.string x.ref,.string x.No,a,f,.int .i64 x.num,.int .i64 x.Np]:List Value).set j v=[.int .u8 x'.kind,.int .u8 x'.op,.string x'.dst,.string x'.ref,.string x'.No,a,f,.int .i64 x'.num,.int .i64 x'.Np]):St w0 B pb xb p A C m k x' (w.setCell ⟨xb,j,none⟩ v):=by
 have hB:=h.Ni.low;have o:aa (fun b=>b≠xb) w (w.setCell ⟨xb,j,none⟩ v):=kR.setCell (.inl fun h=>h rfl) _;exact⟨h.kept.trans (o.mono fun b I=>by have:=I.2;show b≠xb;omega),h.par.kept o fun b I=>by show b≠xb;omega,h.Ni.set j v J R Y⟩
end
theorem nJ {W:World}{B pb:Nat}{p:aL}{A:Option Addr}{C k m:Nat}{v:Value}{n:Nat}{xs:List Value}{S:Value→Prop}(h:PB W B pb p A C k m)(r:W.ownsRow B 9 1 v n xs):
 uA W (fun i=>i≠pb) v (fun b w=>PB w B pb p A C (if b then k+1 else k) m) (fun y _=>S y) where
 big:=fun i hi e=>by have:=h.low;have:=h.size;omega
 own:=fun b j=>⟨fun e=>by subst e;exact cm r h.box (by decide) j,(au r j).2⟩
 ps:=fun b w w' o I=>I.kept o fun i hi e=>by have:=(au r e).1;omega
 c:=fun _ _ _ _ h=>h
end
theorem pK:(prog.info? 9).map (fun i=>(i.zero,i.size,i.bytes))=some (some (.string ⟨#[]⟩),1,16):=by kernel_rfl
def nw (B pb xb:Nat)(p:aL)(A:Option Addr)(C m:Nat)(k':Nat)(x':aB)(w:World)(e:Ending)(w':World):Prop:=e=.returned (.tuple #[])∧St w B pb xb p A C m k' x' w'
theorem xd {R w I:World}{B pb o j k m:Nat}{p:aL}{A:Option Addr}{C:Nat}{x x':aB}{k':Nat}{v u:Value}{n:Nat}{xs:List Value}(h:St R B pb o p A C m k x w)(ro:w.ownsRow B 9 1 v n xs)
 (hk:aa (fun i=>v.ownBlock≠some i∧i≠pb) w I) (hP:PB I B pb p A C k' m) (hX:om (I.setCell ⟨o,j,none⟩ u) B o x'):St R B pb o p A C m k' x' (I.setCell ⟨o,j,none⟩ u):=by
 have hB:=h.Ni.low;have Y:aa (fun b=>b≠o) I (I.setCell ⟨o,j,none⟩ u):=kR.setCell (.inl fun h=>h rfl) _;exact⟨(h.kept.trans (hk.mono fun b J=>⟨fun e=>by have:=(au ro e).1;have:=J.2;omega,J.1⟩)).trans (Y.mono fun b J=>by have:=J.2;show b≠o;omega),hP.kept Y fun b J=>by show b≠o;omega,hX⟩
theorem Cv (B pb j:Nat)(p:aL)(A:Option Addr)(C k m:Nat)(x:aB)(w:World)(h:PB w B pb p A C k m)(o:om w B j x)(J:p.Ok)(R:p.is k 1=true):
 Calls prog 245 #[.pointer (some ⟨pb,0,none⟩),.pointer (some ⟨j,0,none⟩)] w (nw B pb j p A C m (k+1) {x with kind:=11,ref:=p.txt k} w):=by
 have I:=oH (St.first h o);clear h o;go_enter func245,ntmps245;go_wp2_with fail;refine(dE pb p A C _ m _ I.out.par.pat J R).mono ?_;rintro e w1 ⟨rfl,hm⟩;have H1:=oH (I.out.moved hm);clear hm;obtain⟨u0,Y⟩:=H1.out.Ni.cellAt 0 (by decide);have a1:=H1.out.Ni.free 0;obtain⟨u3,a6⟩:=H1.out.Ni.cellAt 3 (by decide);have a7:=H1.out.Ni.free 3;go_wp2_with fail
 go_end0
 exact⟨rfl,(H1.out.set 0 (.int .u8 11) (x':= {x with kind:=11}) rfl rfl (fun _ _=>rfl)).set 3 (.string (p.txt k)) rfl rfl (fun _ _=>rfl)⟩
theorem EW (B pb xb:Nat)(p:aL)(A:Option Addr)(C k m:Nat)(x:aB)(w:World)(h:PB w B pb p A C k m)(hx:om w B xb x)(R:p.Ok)(hq:p.is k 1=true)(hl:x.args.length≤1000):
 Calls prog 247 #[.pointer (some ⟨pb,0,none⟩),.pointer (some ⟨xb,0,none⟩)] w (nw B pb xb p A C m (k+1) {x with kind:=13,args:=x.args++[p.txt k]} w):=by
 obtain⟨iS,a7,a8,b0,b1⟩:=info_parts pK;have IS:=J4 a7 a8 b0 b1;clear a7 a8 b0 b1;have H0:=oH (St.first h hx);clear h hx;go_enter func247,ntmps247;obtain⟨u0,b4⟩:=H0.out.Ni.cellAt 0 (by decide);have b6:=H0.out.Ni.free 0;go_upto_region 1 with fail;have h2:=H0.out.set 0 (.int .u8 13) (x':= {x with kind:=13}) rfl rfl (fun _ _=>rfl);generalize w.setCell _ _=W1 at*;have H1:=oH h2;clear h2 b4 b6;obtain⟨aA,aC,fA,fC,hb,ra,rf,a6,b2⟩:=H1.out.Ni;have HC:=oH (fun wn (hn:PB wn B pb p A C (k) m)=>dE pb p A C _ m wn hn.pat R hq);have Y:=oH (fun wn (hn:aa (fun i=>(Value.ownBlock (.slice aA (x).args.length aC))≠some i∧i≠pb) W1 wn)=>show wn.cell? ⟨xb,5,none⟩=some (.slice aA (x).args.length aC) from(hb.kept hn ⟨cm ra hb (by decide),H1.out.ne⟩).cell 5);have HG:=oH (nJ (k:=k) (S:=fun y=>y=.string (p.txt (k))) H1.out.par ra);have HR:=J3 ra (show PB W1.drew B pb p A C (if false=true then(k)+1 else(k)) m from H1.out.par.kept (S:=All) kR.drew fun _ _=>trivial) H1.out.par.size;have J:=J4 hb rf a6 b2;clear hb ra rf a6 b2;refine cL 11 6 [7,8] (SY W1 (fun i=>i≠pb) B 9 1 (.slice aA (x).args.length aC) (x).args.length ((x).args.map Value.string) (fun b w=>PB w B pb p A C (if b then(k)+1 else(k)) m)) [13,14,15] (FY W1 (fun i=>i≠pb) B 9 1 (.slice aA (x).args.length aC) (x).args.length ((x).args.map Value.string) (fun y=>[y]) (fun y _=>y=.string (p.txt (k))) 14 13) (fun i=>if i=6 then some (fun y=>y=.string (p.txt (k))) else if i=7 then some kI else if i=8 then some (jv (x).args.length) else none) (fun _=>false) (fun _ _=>False) (by kernel_rfl) (by kernel_rfl) (by kernel_rfl) (by kernel_rfl) (yn _ _ _) (by kernel_rfl) (by decide) (SY.first HR.1 HR.2.1) (fun _ _ _ h=>h.elim) ?_;simp only[tK];refine aJ (by rfl) (by rfl) (by rfl) (by decide) (by intro d o;cases o;decide) (fun b wn j R=>by(have q:=Y.out wn j.1;skip;go_simp;with_reducible rfl)) ?_;simp only[PS];refine aJ (by rfl) (by rfl) (by rfl) (by decide) (by intro d o;cases o;decide) (fun b wn j R=>by(have q:=Y.out wn j.1;skip;go_simp;with_reducible rfl)) ?_;simp only[PS];refine aJ (by rfl) (by rfl) (by rfl) (by decide) (by intro d o;cases o;decide) (fun b wn j R=>by(have q:=Y.out wn j.1;skip;go_simp;with_reducible rfl)) ?_;simp only[PS];refine aJ (by rfl) (by rfl) (by rfl) (by decide) (by intro d o;cases o;decide) (fun b wn j R=>by(have q:=Y.out wn j.1;skip;go_simp;with_reducible rfl)) ?_;simp only[PS];refine aJ (by rfl) (by rfl) (by rfl) (by decide) (by intro d o;cases o;decide) (fun b wn j R=>by(have q:=Y.out wn j.1;skip;go_simp;with_reducible rfl)) ?_;simp only[PS];refine aJ (by rfl) (by rfl) (by rfl) (by decide) (by intro d o;cases o;decide) (fun b wn j R=>by(have q:=Y.out wn j.1;skip;go_simp;with_reducible rfl)) ?_;simp only[PS];refine gr (V:=(fun y=>y=.string (p.txt (k)))) HG.out (by rfl) (by rfl) (by rfl) rfl (by decide) (fun wn j=>⟨_,_,by(have q:=Y.out wn j.1;go_simp<;>with_reducible rfl),(HC.out wn j.2.2).mono fun e w' h=>⟨_,h.1,rfl,h.2.1,j.2.2.moved h.2,rfl⟩⟩) ?_;rintro u rfl;simp only[PS];refine iG HG.out (by decide) (by rfl) (by rfl) (by rfl) rfl (by decide) _ rfl (by decide) (fun wn j=>by(skip;go_simp<;>with_reducible rfl)) ?_;intro g;simp only[PS];refine iE HG.out (by decide) (by rfl) (by rfl) (by rfl) rfl (by decide) (by decide) (.tmp 11) 22 rfl iS _ 16 underlying22 IS.1 IS.2.1 IS.2.2.1 IS.2.2.2 rfl (by decide) rfl g rfl (by decide) (fun y w hy=>by subst hy;exact⟨rfl,fun u hu=>by rw[ce.1 hu];rfl⟩) (by unfold maxLen;show x.args.length+1≤_;omega) (by show(x.args.length+1)*16≤_;omega) HR.2.2 ?_;intro A5 c5;simp only[PS];refine aJ (by rfl) (by rfl) (by rfl) (by decide) (by intro d o;cases o;decide) (fun b wn j R=>by(have q:=Y.out wn j.1;skip;go_simp;with_reducible rfl)) ?_;simp only[PS];refine aJ (by rfl) (by rfl) (by rfl) (by decide) (by intro d o;cases o;decide) (fun b wn j R=>by(have q:=Y.out wn j.1;skip;go_simp;with_reducible rfl)) ?_;simp only[PS];refine ku fun wt b3 hF=>?_;have a1:=hF 15 (by simp) _ rfl;unfold FY at a1;rw[ah (by decide),ah (by decide)] at a1;have HT:=oH (show SY _ _ _ _ _ _ _ _ _ _ _ from b3);have HA:=oH a1;clear b3 hF a1;simp only[dK];have I:=J.1.kept HT.1 ⟨cm HR.1 J.1 (by decide),H1.out.ne⟩;have b5:=I.cell 5;have f5:=I.free 5;simp only[gc] at b5;clear I;go_wp2_with fail
 go_end0
 obtain⟨y,wz,q1,rfl,q3,q4,q5⟩:=HA.out;have I:=J.1.kept HT.1 ⟨cm HR.1 J.1 (by decide),H1.out.ne⟩;have b7:=ay J.2.1 HT.1 fun g hg=>⟨fun e=>J.2.2.1 g e hg,by rintro rfl;exact cm J.2.1 H1.out.par.box (by decide) hg⟩;have hX:=om.put_args (x:= {x with kind:=13}) I q1 b7 (rJ J.2.1 J.2.2.1 q3 q5) J.2.2.2;have b8:=xd H1.out HR.1 HT.1 HT.2.2 hX;exact⟨rfl,b8⟩
theorem xC (B pb xb:Nat)(p:aL)(A:Option Addr)(C k m:Nat)(x:aB)(w:World)(h:PB w B pb p A C k m)(hx:om w B xb x)(J:p.Ok)(hq:p.is k 1=true)(b7:p.is (k+1) 1=true)(b8:p.is (k+1+1) 1=true)(hl:x.args.length≤1000):
 Calls prog 246 #[.pointer (some ⟨pb,0,none⟩),.pointer (some ⟨xb,0,none⟩)] w (nw B pb xb p A C m (k+1+1+1) {x with kind:=12,args:=x.args++[p.txt k],ref:=p.txt (k+1),No:=p.txt (k+1+1)} w):=by
 obtain⟨iS,a7,a8,b0,b1⟩:=info_parts pK;have IS:=J4 a7 a8 b0 b1;clear a7 a8 b0 b1;have H0:=oH (St.first h hx);clear h hx;go_enter func246,ntmps246;obtain⟨u0,b9⟩:=H0.out.Ni.cellAt 0 (by decide);have c0:=H0.out.Ni.free 0;go_upto_region 1 with fail;have h2:=H0.out.set 0 (.int .u8 12) (x':= {x with kind:=12}) rfl rfl (fun _ _=>rfl);generalize w.setCell _ _=W1 at*;have H1:=oH h2;clear h2 b9 c0;obtain⟨aA,aC,fA,fC,hb,ra,rf,a6,b2⟩:=H1.out.Ni;have HC:=oH (fun wn (hn:PB wn B pb p A C (k) m)=>dE pb p A C _ m wn hn.pat J hq);have Y:=oH (fun wn (hn:aa (fun i=>(Value.ownBlock (.slice aA (x).args.length aC))≠some i∧i≠pb) W1 wn)=>show wn.cell? ⟨xb,5,none⟩=some (.slice aA (x).args.length aC) from(hb.kept hn ⟨cm ra hb (by decide),H1.out.ne⟩).cell 5);have HG:=oH (nJ (k:=k) (S:=fun y=>y=.string (p.txt (k))) H1.out.par ra);have HR:=J3 ra (show PB W1.drew B pb p A C (if false=true then(k)+1 else(k)) m from H1.out.par.kept (S:=All) kR.drew fun _ _=>trivial) H1.out.par.size;have R:=J4 hb rf a6 b2;clear hb ra rf a6 b2;refine cL 11 6 [7,8] (SY W1 (fun i=>i≠pb) B 9 1 (.slice aA (x).args.length aC) (x).args.length ((x).args.map Value.string) (fun b w=>PB w B pb p A C (if b then(k)+1 else(k)) m)) [13,14,15] (FY W1 (fun i=>i≠pb) B 9 1 (.slice aA (x).args.length aC) (x).args.length ((x).args.map Value.string) (fun y=>[y]) (fun y _=>y=.string (p.txt (k))) 14 13) (fun i=>if i=6 then some (fun y=>y=.string (p.txt (k))) else if i=7 then some kI else if i=8 then some (jv (x).args.length) else none) (fun _=>false) (fun _ _=>False) (by kernel_rfl) (by kernel_rfl) (by kernel_rfl) (by kernel_rfl) (yn _ _ _) (by kernel_rfl) (by decide) (SY.first HR.1 HR.2.1) (fun _ _ _ h=>h.elim) ?_;simp only[tK];refine aJ (by rfl) (by rfl) (by rfl) (by decide) (by intro d o;cases o;decide) (fun b wn j J=>by(have q:=Y.out wn j.1;skip;go_simp;with_reducible rfl)) ?_;simp only[PS];refine aJ (by rfl) (by rfl) (by rfl) (by decide) (by intro d o;cases o;decide) (fun b wn j J=>by(have q:=Y.out wn j.1;skip;go_simp;with_reducible rfl)) ?_;simp only[PS];refine aJ (by rfl) (by rfl) (by rfl) (by decide) (by intro d o;cases o;decide) (fun b wn j J=>by(have q:=Y.out wn j.1;skip;go_simp;with_reducible rfl)) ?_;simp only[PS];refine aJ (by rfl) (by rfl) (by rfl) (by decide) (by intro d o;cases o;decide) (fun b wn j J=>by(have q:=Y.out wn j.1;skip;go_simp;with_reducible rfl)) ?_;simp only[PS];refine aJ (by rfl) (by rfl) (by rfl) (by decide) (by intro d o;cases o;decide) (fun b wn j J=>by(have q:=Y.out wn j.1;skip;go_simp;with_reducible rfl)) ?_;simp only[PS];refine aJ (by rfl) (by rfl) (by rfl) (by decide) (by intro d o;cases o;decide) (fun b wn j J=>by(have q:=Y.out wn j.1;skip;go_simp;with_reducible rfl)) ?_;simp only[PS];refine gr (V:=(fun y=>y=.string (p.txt (k)))) HG.out (by rfl) (by rfl) (by rfl) rfl (by decide) (fun wn j=>⟨_,_,by(have q:=Y.out wn j.1;go_simp<;>with_reducible rfl),(HC.out wn j.2.2).mono fun e w' h=>⟨_,h.1,rfl,h.2.1,j.2.2.moved h.2,rfl⟩⟩) ?_;rintro u rfl;simp only[PS];refine iG HG.out (by decide) (by rfl) (by rfl) (by rfl) rfl (by decide) _ rfl (by decide) (fun wn j=>by(skip;go_simp<;>with_reducible rfl)) ?_;intro g;simp only[PS];refine iE HG.out (by decide) (by rfl) (by rfl) (by rfl) rfl (by decide) (by decide) (.tmp 11) 22 rfl iS _ 16 underlying22 IS.1 IS.2.1 IS.2.2.1 IS.2.2.2 rfl (by decide) rfl g rfl (by decide) (fun y w hy=>by subst hy;exact⟨rfl,fun u hu=>by rw[ce.1 hu];rfl⟩) (by unfold maxLen;show x.args.length+1≤_;omega) (by show(x.args.length+1)*16≤_;omega) HR.2.2 ?_;intro A5 c5;simp only[PS];refine aJ (by rfl) (by rfl) (by rfl) (by decide) (by intro d o;cases o;decide) (fun b wn j J=>by(have q:=Y.out wn j.1;skip;go_simp;with_reducible rfl)) ?_;simp only[PS];refine aJ (by rfl) (by rfl) (by rfl) (by decide) (by intro d o;cases o;decide) (fun b wn j J=>by(have q:=Y.out wn j.1;skip;go_simp;with_reducible rfl)) ?_;simp only[PS];refine ku fun wt b3 hF=>?_;have a1:=hF 15 (by simp) _ rfl;unfold FY at a1;rw[ah (by decide),ah (by decide)] at a1;have HT:=oH (show SY _ _ _ _ _ _ _ _ _ _ _ from b3);have HA:=oH a1;clear b3 hF a1;simp only[dK];have I:=R.1.kept HT.1 ⟨cm HR.1 R.1 (by decide),H1.out.ne⟩;have b5:=I.cell 5;have f5:=I.free 5;simp only[gc] at b5;clear I;go_upto_region 2 with fail;obtain⟨y,wz,q1,rfl,q3,q4,q5⟩:=HA.out;have I:=R.1.kept HT.1 ⟨cm HR.1 R.1 (by decide),H1.out.ne⟩;have b4:=ay R.2.1 HT.1 fun g hg=>⟨fun e=>R.2.2.1 g e hg,by rintro rfl;exact cm R.2.1 H1.out.par.box (by decide) hg⟩;have hX:=om.put_args (x:= {x with kind:=12}) I q1 b4 (rJ R.2.1 R.2.2.1 q3 q5) R.2.2.2;have b6:=xd H1.out HR.1 HT.1 HT.2.2 hX;generalize wt.setCell _ _=c3 at*;have H2:=oH b6;clear I b4 hX b6 q1 q3 q4 q5 b5 f5 HA HT R HR HG Y HC;go_wp2_with fail;refine(dE pb p A C _ m _ H2.out.par.pat J b7).mono ?_;rintro e w3 ⟨rfl,hm⟩;have H3:=oH (H2.out.moved hm);clear hm;obtain⟨u3,c1⟩:=H3.out.Ni.cellAt 3 (by decide);have c2:=H3.out.Ni.free 3;go_upto_region 3 with fail;have h2:=H3.out.set 3 (.string (p.txt (k+1))) (x':= {x with kind:=12,args:=x.args++[p.txt k],ref:=p.txt (k+1)}) rfl rfl (fun _ _=>rfl);generalize w3.setCell _ _=W4 at*;have H4:=oH h2;clear h2 c1 c2;go_wp2_with fail;refine(dE pb p A C _ m _ H4.out.par.pat J b8).mono ?_;rintro e w5 ⟨rfl,hm⟩;have H5:=oH (H4.out.moved hm);clear hm;obtain⟨u4,c4⟩:=H5.out.Ni.cellAt 4 (by decide);have c6:=H5.out.Ni.free 4;go_wp2_with fail
 go_end0
 exact⟨rfl,H5.out.set 4 (.string (p.txt (k+1+1))) rfl rfl (fun _ _=>rfl)⟩
end Go.Proofs.YtccbbkopmlnkpaaGreatDoor
