/- TopOther: part 6: TopParts TopN1 TopN2 TopBuildZ TopRes1 Cond. -/
import Derived.IntWalk
import Derived.BigRegion
import Derived.Laws.Bits64b
import Derived.Sort.Statements
import Derived.Sort.Grow
import Derived.Laws.MathBits
import Derived.WalkSpells
import Derived.Deep.QuietTactic
import Derived.Outline
import Derived.Test.YtclgigmgbebhgaaGreatDoorO05
set_option linter.unusedVariables false
set_option linter.unusedSimpArgs false
set_option maxRecDepth 100000
set_option maxHeartbeats 16000000
namespace Go.Proofs.YtclgigmgbebhgaaGreatDoor
open Tryz
open Go Go.Proofs Go.RowKit Go.Maps Go.WideMaps Go.ChangeMaps
variable {pc:Array Value} {LO M Bm N ow a mB pB aB oB R t o:Nat} {vs c2 c3:Value} {W w:World}
open Go.Sort (SWO PermIn SortedIn)
open Go.Shelf
abbrev BI:Nat:=219
abbrev Xy:Nat:=78
instance:Inhabited ZM:=⟨.subs []⟩
abbrev VU:=Fin 4294967296×(Nat×Array Value)×ZM
def RS(x:VU):List Value:=[.int .u32 x.1.val,.func (.func x.2.1.1) #[] x.2.1.2]
theorem cN:(prog.info? BI).map (λi=>(i.zero,i.size,i.bytes))=some (some (.agg #[.int .u32 0,.nilFunc]),2,16):=jK
def ghost(x:VU):Nat×ZM:=(x.1.val,x.2.2)
theorem lF(x y:VU):ltOf (λx y:VU=>(x.1.val:Int)-(y.1.val:Int)) x y=decide (x.1.val<y.1.val):=by
 unfold ltOf;by_cases h:x.1.val<y.1.val;·simp[h];omega
 ·simp[h];omega
theorem ah0:SWO (ltOf λx y:VU=>(x.1.val:Int)-(y.1.val:Int)) where
 irrefl x:=by rw[lF];simp
 trans x y z h1 h2:=by rw[lF] at*;simp at*;omega
 ntrans x y z h1 h2:=by rw[lF] at*;simp at*;omega
theorem ah1(x y:VU)(W:World):Calls prog 173 #[.agg #[.int .u32 x.1.val,.func (.func x.2.1.1) #[] x.2.1.2],.agg #[.int .u32 y.1.val,.func (.func y.2.1.1) #[] y.2.1.2]] W λe w'=>e=.returned (.int .i64 ((x.1.val:Int)-(y.1.val:Int)))/\∃q A,w'=Go.Sort.grow (W.drewN q) A:=by
 obtain⟨⟨x,hx⟩,⟨Y,J⟩,U⟩:=x;obtain⟨⟨y,hy⟩,⟨T,I⟩,ty⟩:=y;dsimp only;have C:IntKind.i64.wrap (x:Int)=x:=aJ _ jO;have Z:IntKind.i64.wrap (y:Int)=y:=aJ _ jO;have D:IntKind.i64.wrap ((x:Int)-(y:Int))=(x:Int)-(y:Int):=aJ _ jO;go_enter func173,ntmps173;go_wp2_with fail;go_ret;exact⟨rfl,0,_,by rw[Go.Sort.alloc_eq_grow,Go.Sort.alloc_eq_grow,Go.Sort.grow_grow];rfl⟩
abbrev Oy:Nat:=119
structure TY(W:World)(M ow a mB pB aB oB:Nat)(pc:Array Value):Prop where
 hm:Z7 W mB 132 #[.pointer (some ⟨M,0,none⟩)]
 hp:Z7 W pB Xy pc
 ha:Z7 W aB 3 #[.int .i64 a]
 ho:Z7 W oB 3 #[.int .i64 ow]
def Does(N a mB pB aB oB:Nat)(pc:Array Value)(W:World)(x:VU):Prop:=
 match x.2.2 with
 | .rules wide rs=>wide=decide (a≠2)/\Pc rs/\rs.length<=1000000/\(∀r∈rs,r.1.length<=1000000)/\∃eB num vr,x.2.1=(167,#[.pointer (some ⟨mB,0,none⟩),.pointer (some ⟨eB,0,none⟩),.pointer (some ⟨aB,0,none⟩),.pointer (some ⟨oB,0,none⟩)])/\Z7 W eB Oy #[num,vr]/\Ux N W vr rs
 | .subs l=>l.length<=4000/\l.Pairwise (λa b=>a.1<b.1)/\(∀p∈l,p.2<4294967296)/\∃vs,VK N W vs l/\
    ((x.2.1=(169,#[.pointer (some ⟨mB,0,none⟩),.pointer (some ⟨pB,0,none⟩),.pointer (some ⟨oB,0,none⟩)])/\pc[7]? =some vs)\/(x.2.1=(171,#[.pointer (some ⟨mB,0,none⟩),.pointer (some ⟨pB,0,none⟩),.pointer (some ⟨oB,0,none⟩)])/\pc[8]? =some vs))
theorem Does.mono{N a mB pB aB oB K:Nat}{pc:Array Value}{W W':World}(hk:∀B cs,Z7 W B Oy cs->Z7 W' B Oy cs)(hb:Below K W W')(hN:N<=K){x:VU}(h:Does N a mB pB aB oB pc W x):Does N a mB pB aB oB pc W' x:=by
 obtain⟨n,f,T⟩:=x;cases T with
 |rules wide rs=>
  obtain⟨A,J,D,I,U,num,vr,C,Y,Z⟩:=h;exact⟨A,J,D,I,U,num,vr,C,hk _ _ Y,Z.below hb hN⟩
 |subs l=>
  obtain⟨A,J,D,vs,I,C⟩:=h;exact⟨A,J,D,vs,I.below hb hN,C⟩
theorem Does.fn{N a mB pB aB oB:Nat}{pc:Array Value}{W:World}{x:VU}(h:Does N a mB pB aB oB pc W x):∃cs,x.2.1=(167,cs)\/x.2.1=(169,cs)\/x.2.1=(171,cs):=by
 obtain⟨n,f,C⟩:=x;cases C with
 |rules wide rs=>
  obtain⟨_,_,_,_,D,num,I,A,_⟩:=h;exact⟨_,.inl A⟩
 |subs l=>
  obtain⟨_,_,_,vs,_,A|A⟩:=h;·exact⟨_,.inr (.inl A.1)⟩
  ·exact⟨_,.inr (.inr A.1)⟩
def UM(LO M Bm ow:Nat)(g:G)(w:World)(tp:ZM):Ending->World->Prop:=λe w'=>e=.returned (.tuple #[])/\∃v',Zl LO M Bm w' v' (VV ow tp g)/\Yh LO M Bm w w'/\Wj (VV ow tp g)
theorem BH{eB:Nat} {v num vr:Value}{g:G}(rs:List Z3)(w:World)(hc:Pc rs)(h1:rs.length<=1000000)(h2:∀r∈rs,r.1.length<=1000000)(he:Z7 w eB Oy #[num,vr])(hm:Ux N w vr rs)
 (hb:TY w M ow a mB pB aB oB pc) (h:Zl LO M Bm w v g) (hg:Wj g) (hG:GB (XN (decide (a≠2)) ow rs g)) (hN:N<=LO) (T:LO<=w.heap.size):
 Calls prog 167 #[.pointer (some ⟨mB,0,none⟩),.pointer (some ⟨eB,0,none⟩),.pointer (some ⟨aB,0,none⟩),.pointer (some ⟨oB,0,none⟩)] w (UM LO M Bm ow g w (.rules (decide (a≠2)) rs)):=by
 have c1:=cell1 hb.hm;have c2:=cell1 hb.ha;have c3:=cell1 hb.ho;have c4:w.cell? ⟨eB,1,none⟩=some vr:=by simpa using he.cell 1
 have A:=aT (xu rs (decide (a≠2)) ow hc h1 h2 w h hg hG hm hN T);obtain⟨ua,uc,rfl,Y⟩:=hm;unfold UM;clear Y he hb h hg hG hc h2;by_cases ha:a=2;·subst ha;go_enter func167,ntmps167;go_wp2_with fail;refine A.mono ?_;rintro e w' ⟨rfl,v',C,D,I⟩;have U:=aT C;have J:=aT D;have Z:=aT I;clear C D I A;go_wp2_with fail;go_end0;exact⟨rfl,v',U,J,Z⟩
 ·have hz:((a:Int) == 2)=false:=by rw[ae];omega
  have hz2:((a:Int) != 2)=true:=by rw[aze];omega
  have hd:decide (a≠2)=true:=by simpa using ha
  rw[hd] at A ⊢;clear hd;go_enter func167,ntmps167;go_wp2_with fail;refine A.mono ?_;rintro e w' ⟨rfl,v',C,D,I⟩;have U:=aT C;have J:=aT D;have Z:=aT I;clear C D I A;go_wp2_with fail;go_end0;exact⟨rfl,v',U,J,Z⟩
theorem BG{v:Value}{g:G}(l:List (Nat×Nat))(w:World)(h1:l.length<=4000)(h2:l.Pairwise (λa b=>a.1<b.1))(T:∀p∈l,p.2<4294967296)(hm:VK N w vs l)(hp:pc[7]? =some vs)
 (hb:TY w M ow a mB pB aB oB pc) (h:Zl LO M Bm w v g) (D:Wj g) (Z:GB (WK ow l g)) (hN:N<=LO) (A:LO<=w.heap.size):
 Calls prog 169 #[.pointer (some ⟨mB,0,none⟩),.pointer (some ⟨pB,0,none⟩),.pointer (some ⟨oB,0,none⟩)] w (UM LO M Bm ow g w (.subs l)):=by
 have c1:=cell1 hb.hm;have c3:=cell1 hb.ho;have c4:w.cell? ⟨pB,7,none⟩=some vs:=(hb.hp.cell 7).trans hp;have I:=aT (Ed (ow:=ow) l h1 h2 T w h D Z hm hN A);obtain⟨ua,uc,rfl,C⟩:=hm;unfold UM;clear C hb h D Z hp h2 T;go_enter func169,ntmps169;go_wp2_with fail;refine I.mono ?_;rintro e w' ⟨rfl,v',J,U,Y⟩;have HM:=aT J;have HF:=aT U;have HO:=aT Y;clear J U Y I;go_wp2_with fail;go_end0;exact⟨rfl,v',HM,HF,HO⟩
theorem BF{v:Value}{g:G}(l:List (Nat×Nat))(w:World)(h1:l.length<=4000)(h2:l.Pairwise (λa b=>a.1<b.1))(T:∀p∈l,p.2<4294967296)(hm:VK N w vs l)(hp:pc[8]? =some vs)
 (hb:TY w M ow a mB pB aB oB pc) (h:Zl LO M Bm w v g) (D:Wj g) (Z:GB (WK ow l g)) (hN:N<=LO) (A:LO<=w.heap.size):
 Calls prog 171 #[.pointer (some ⟨mB,0,none⟩),.pointer (some ⟨pB,0,none⟩),.pointer (some ⟨oB,0,none⟩)] w (UM LO M Bm ow g w (.subs l)):=by
 have c1:=cell1 hb.hm;have c3:=cell1 hb.ho;have c4:w.cell? ⟨pB,8,none⟩=some vs:=(hb.hp.cell 8).trans hp;have I:=aT (Ed (ow:=ow) l h1 h2 T w h D Z hm hN A);obtain⟨ua,uc,rfl,C⟩:=hm;unfold UM;clear C hb h D Z hp h2 T;go_enter func171,ntmps171;go_wp2_with fail;refine I.mono ?_;rintro e w' ⟨rfl,v',J,U,Y⟩;have HM:=aT J;have HF:=aT U;have HO:=aT Y;clear J U Y I;go_wp2_with fail;go_end0;exact⟨rfl,v',HM,HF,HO⟩
theorem sI{LO M Bm N ow a mB pB aB oB:Nat}{pc:Array Value}{v:Value}{g:G}(x:VU)(w:World)(hd:Does N a mB pB aB oB pc w x)(hb:TY w M ow a mB pB aB oB pc)(h:Zl LO M Bm w v g)(T:Wj g)(Y:GB (VV ow x.2.2 g))(hN:N<=LO)(A:LO<=w.heap.size):
 Calls prog x.2.1.1 x.2.1.2 w (UM LO M Bm ow g w x.2.2):=by
 obtain⟨n,f,tp⟩:=x;cases tp with
 |rules wide rs=>
  obtain⟨rfl,J,D,I,eB,num,vr,rfl,C,h7⟩:=hd;exact BH rs w J D I C h7 hb h T Y hN A
 |subs l=>
  obtain⟨Z,J,D,vs,I,⟨U,C⟩|⟨U,C⟩⟩:=hd;·obtain rfl:f=_:=U;exact BG l w Z J D I C hb h T Y hN A
  ·obtain rfl:f=_:=U;exact BF l w Z J D I C hb h T Y hN A
structure Ya where
 d:Nat
 x:Bool
 (e0 e1 e2 e3 e4 s0 s1:Option Addr×Nat×Nat)
def VO(t:Option Addr×Nat×Nat):Value:=.slice t.1 t.2.1 t.2.2
def ZA(q:Ya):Array Value:=#[.int .u32 q.d,.bool q.x,VO q.e0,VO q.e1,VO q.e2,VO q.e3,VO q.e4,VO q.s0,VO q.s1]
def Ya.e(q:Ya)(a:Nat):Option Addr×Nat×Nat:=if a=0 then q.e0 else if a=1 then q.e1 else if a=2 then q.e2 else if a=3 then q.e3 else q.e4
theorem lz(q:Ya) (ha:a<5):(ZA q)[2+a]? =some (VO (q.e a)):=by
 rcases (show a=0\/a=1\/a=2\/a=3\/a=4 from jO) with rfl|rfl|rfl|rfl|rfl<;>rfl
def cM(e:Nat×List Z3):Prop:=e.1<4294967296/\Pc e.2/\e.2.length<=1000000/\∀r∈e.2,r.1.length<=1000000
def wW(l:List (Nat×Nat)):Prop:=l.length<=4000/\l.Pairwise (λa b=>a.1<b.1)/\∀p∈l,p.2<4294967296
def VD(a:Nat)(e:Nat×List Z3):Nat×ZM:=(e.1,.rules (decide (a≠2)) e.2)
def ZZ(a:Nat)(es:List (Nat×List Z3))(s0 s1:List (Nat×Nat)):List (Nat×ZM):=es.map (VD a)++(if a=2 then [(102,.subs s0),(117,.subs s1)] else [])
structure WB(N LO a mB pB aB oB:Nat)(pc:Array Value)(W:World)(v:Value)(n:Nat)(ds:List VU)(src:List (Nat×ZM)):Prop where
 own:W.ownsRow LO BI 2 v n (ds.flatMap RS)
 len:ds.length=n
 does:∀x∈ds,Does N a mB pB aB oB pc W x
 src:ds.map ghost=src
theorem TY.mono{W':World}(h:TY W M ow a mB pB aB oB pc)(hk:∀B t cs,t≠BI->Z7 W B t cs->Z7 W' B t cs):TY W' M ow a mB pB aB oB pc:=
 ⟨hk _ _ _ jD h.hm,hk _ _ _ jD h.hp,hk _ _ _ jD h.ha,hk _ _ _ jD h.ho⟩
theorem KP{n:Nat}{v:Value}{ds:List VU}{src:List (Nat×ZM)}(hp:WB N LO a mB pB aB oB pc W v n ds src)(hx:TY W M ow a mB pB aB oB pc)(hb:RowKit.Below LO w W)(hN:N<=LO)(hn:n<=10000):
 Calls prog 172 #[v,.func (.func 173) #[] #[]] W λe w'=>e=.returned (.tuple #[])/\∃C A,WB N LO a mB pB aB oB pc w' v n C A/\TY w' M ow a mB pB aB oB pc/\RowKit.Below LO w w'/\A.Perm src/\A.Pairwise (λx y=>x.1<=y.1):=by
 have eg:∀args w,(callFunc 173 args).run prog w=.ok (.enter 173 args) w:=enters_of func173 jK rfl;have h:=Oz Tryz.sK 2 isAgg219 sizeOf219 RS (λ_=>rfl) (λx v hv=>by simp[RS] at hv;rcases hv with rfl|rfl<;>rfl) (λx y=>(x.1.val:Int)-(y.1.val:Int)) ah0 173 #[] eg (λx y W=>ah1 x y W) W hp.len hp.own jO;refine h.mono ?_;rintro e w' ⟨rfl,C,D,Y,T,J,_,Z⟩;have I:∀B t cs,t≠BI->Z7 W B t cs->Z7 w' B t cs:=λB t cs ht h=>Z B _ h (YT hp.own h (ana ht))
 refine⟨rfl,C,C.map ghost,⟨T,D.length_eq.trans hp.len,λx hx=>(hp.does x (D.mem_iff.1 hx)).mono (λB cs h=>I B _ cs jD h) J hN,rfl⟩,hx.mono I,hb.trans J,?_,?_⟩;·rw[<-hp.src];exact D.map ghost
 ·rw[aeg];refine Y.imp (λ{x y} U=> ?_);rw[lF] at U;show x.1.val<=y.1.val;simpa using U
theorem wV (q:Ya)(es:List (Nat×List Z3))(s0 s1:List (Nat×Nat))(ha:a<5)(w:World)(he:WE N w (VO (q.e a)) es)(hec:∀e∈es,cM e)(tV:es.length<=4000)(hs0:VK N w (VO q.s0) s0)(hs1:VK N w (VO q.s1) s1)(hc0:wW s0)(hc1:wW s1)(hN:N<=w.heap.size):
 Calls prog 104 #[.pointer (some ⟨M,0,none⟩),.agg (ZA q),.int .i64 a,.int .i64 ow] w λe w'=>∃v mB pB aB oB ds src,e=.returned v/\Below w.heap.size w w'/\TY w' M ow a mB pB aB oB (ZA q)/\WB N w.heap.size a mB pB aB oB (ZA q) w' v ds.length ds src/\src.Perm (ZZ a es s0 s1)/\src.Pairwise (λx y=>x.1<=y.1):=by
 obtain⟨A1,hA1⟩:∃A:Obj,A=.cells #[.pointer (some ⟨M,0,none⟩)] 132:=⟨_,rfl⟩;obtain⟨A2,sM⟩:∃A:Obj,A=.cells (ZA q) Xy:=⟨_,rfl⟩;obtain⟨A3,hA3⟩:∃A:Obj,A=.cells #[.int .i64 a] 3:=⟨_,rfl⟩;obtain⟨A4,hA4⟩:∃A:Obj,A=.cells #[.int .i64 ow] 3:=⟨_,rfl⟩;have b4:Below w.heap.size w ((((w.alloc A1).alloc A2).alloc A3).alloc A4):=(((((aH w.heap.size w).alloc (aR _) A1).alloc (by rw[ah];omega) A2).alloc (by rw[ah,ah];omega) A3).alloc (by rw[ah,ah,ah];omega) A4);have HBX:Hid (TY ((((w.alloc A1).alloc A2).alloc A3).alloc A4) M ow a w.heap.size (w.heap.size+1) (w.heap.size+1+1) (w.heap.size+1+1+1) (ZA q)):=by
  subst hA1 sM hA3 hA4;refine⟨(((Z7.new w _ _).alloc _).alloc _).alloc _,?_,?_,?_⟩;·have:=((Z7.new (w.alloc (.cells #[.pointer (some ⟨M,0,none⟩)] 132)) Xy (ZA q)).alloc (.cells #[.int .i64 a] 3)).alloc (.cells #[.int .i64 ow] 3);rwa [ah] at this
  ·have:=(Z7.new ((w.alloc (.cells #[.pointer (some ⟨M,0,none⟩)] 132)).alloc (.cells (ZA q) Xy)) 3 #[.int .i64 a]).alloc (.cells #[.int .i64 ow] 3);rwa [ah,ah] at this
  ·have:=(Z7.new (((w.alloc (.cells #[.pointer (some ⟨M,0,none⟩)] 132)).alloc (.cells (ZA q) Xy)).alloc (.cells #[.int .i64 a] 3)) 3 #[.int .i64 ow]);rwa [ah,ah,ah] at this
 have HE:=aT he;have HEC:=aT hec;have Uj:=aT hs0;have Nt:=aT hs1;have Fv:=aT hc0;have zl:=aT hc1;have KO:=aT b4;have gF:∀(fn:Fn) (first cap:Array Value) (w:World),(Instr.makeFunc fn first cap).run prog w=.ok (.func fn first cap) w:=λ_ _ _ _=>rfl
 obtain⟨L,hL⟩:=jX es.length;have ah2:(q.e a).2.1=L:=by obtain⟨a1,c1,e1,_⟩:=he;unfold VO at e1;injection e1 with _ e2 _;rw[<-hL];exact e2
 rw[hL] at tV;have HL:=aT hL;have HEL:=aT ah2;subst hA1 sM hA3 hA4;clear he hec hs0 hs1 hc0 hc1 b4 hL ah2;unfold ZA VO at*;go_enter func104,ntmps104;go_upto_region 2 with fail;generalize (((w.alloc (.cells #[.pointer (some ⟨M,0,none⟩)] 132)).alloc (.cells #[.int .u32 q.d,.bool q.x,.slice q.e0.1 q.e0.2.1 q.e0.2.2,.slice q.e1.1 q.e1.2.1 q.e1.2.2,.slice q.e2.1 q.e2.2.1 q.e2.2.2,.slice q.e3.1 q.e3.2.1 q.e3.2.2,.slice q.e4.1 q.e4.2.1 q.e4.2.2,.slice q.s0.1 q.s0.2.1 q.s0.2.2,.slice q.s1.1 q.s1.2.1 q.s1.2.2] Xy)).alloc (.cells #[.int .i64 a] 3)).alloc (.cells #[.int .i64 ow] 3)=w4 at*;obtain⟨mB,hmB⟩:∃x,w.heap.size=x:=⟨_,rfl⟩;obtain⟨pB,hpB⟩:∃x,w.heap.size+1=x:=⟨_,rfl⟩;obtain⟨aB,haB⟩:∃x,w.heap.size+1+1=x:=⟨_,rfl⟩;obtain⟨oB,hoB⟩:∃x,w.heap.size+1+1+1=x:=⟨_,rfl⟩;rw[hoB,haB,hpB,hmB] at HBX;rw[hoB,haB,hpB,hmB];have Ef:Hid (w.heap.size=mB):=hmB;clear hmB hpB haB hoB;have ca:=cell1 HBX.ha;have cp:w4.cell? ⟨pB,2+a,none⟩=some (.slice (q.e a).1 L (q.e a).2.2):=by rw[<-HEL.out];exact(HBX.hp.cell (2+a)).trans (lz q ha)
 obtain⟨iP,hi,hz0,hz1,hz2⟩:=ZP cN;have cK:Hid (WE N w (.slice (q.e a).1 L (q.e a).2.2) es):=by rw[<-HEL.out];exact HE
 clear HE HEL;generalize (q.e a).1=ea at*;generalize (q.e a).2.2=ec at*;have az0:=jZ a;have az1:(a:Int)<5:=jO;go_upto_region 3 with fail;go_loopg [9,17] (L+1) (λgg vo iv wr=>∃(i:Nat) (ds:List VU),i<=L/\L-i<gg/\iv=.int .i64 (i:Int)/\Hid (Below w.heap.size w wr)/\Hid (TY wr M ow a mB pB aB oB (ZA q))/\Hid (WB N w.heap.size a mB pB aB oB (ZA q) wr vo i ds ((es.take i).map (VD a))));case atStart=>exact⟨0,[],abc _,jO,rfl,KO,HBX,⟨Yg _ _ _ _,rfl,λx hx=>(by cases hx),rfl⟩⟩
 case round=>
  obtain⟨i,ds,zm,VP,rfl,HB,sH,T⟩:=hrel;clear KO HBX ca cp;have i0:=jZ i;by_cases hlt:i<L
  ·have Y8:(i:Int)<(L:Int):=by omega
   obtain⟨en,hen⟩:∃en,es[i]? =some en:=⟨_,aM (by rw[HL.out];exact hlt)⟩;obtain⟨a2,c2,e2,hrow⟩:=cK.out;injection e2 with e3 e6 e4;clear e6;subst e3 e4;obtain⟨gb,off,u,rfl,U7,c0,c1,hru⟩:=hrow i en hen;have y0:=ZY HB hN U7 c0;have y1:=ZY HB hN U7 c1;have Z:=hru.below HB hN;obtain⟨cI,cH,cG,cF⟩:=HEC en (af hen);obtain⟨num,rs⟩:=en;dsimp only at cI cH cG cF y0 y1 hru Z;have at4:=Z;obtain⟨ra,rc,rfl,hzz⟩:=at4;clear hzz;have HEN:=aT hen;have HRU:=aT Z;have HRC:=aT (And.intro cH cF);have hbl:=HB.size;have Ls:=aT (Z7.new wr Oy #[.int .u32 num,.slice ra rs.length rc]);have Ut:=aT (HB.alloc hbl (.cells #[.int .u32 num,.slice ra rs.length rc] Oy));have Gk:=aT (sH.mono (λB t cs _ h=>Z7.alloc h (.cells #[.int .u32 num,.slice ra rs.length rc] Oy)));have I:Hid (WB N w.heap.size a mB pB aB oB (ZA q) (wr.alloc (.cells #[.int .u32 num,.slice ra rs.length rc] Oy)) u9 i ds ((es.take i).map (VD a))):=⟨T.own.alloc _,T.len,λx hx=>(T.does x hx).mono (λB cs h=>Z7.alloc h _) ((aH N wr).alloc (aO hN hbl) _) (aR _),T.src⟩;have sG:=aT (Ux.below ((aH N wr).alloc (aO hN hbl) (.cells #[.int .u32 num,.slice ra rs.length rc] Oy)) (aR _) Z);clear hrow c0 c1 hru Z hen cH cF HB sH T HRU;obtain⟨va,vc,rfl⟩:=ZI I.own;go_upto_region 5 with fail;clear y0 y1;generalize wr.alloc (.cells #[.int .u32 num,.slice ra rs.length rc] Oy)=wa at*;generalize wr.heap.size=eB at*;have z0:wa.cell? ⟨eB,0,none⟩=some (.int .u32 num):=by simpa using Ls.out.cell 0
   have cE:=Ut.size;have HX:Hid (((ds++[(⟨num,cI⟩,(167,#[.pointer (some ⟨mB,0,none⟩),.pointer (some ⟨eB,0,none⟩),.pointer (some ⟨aB,0,none⟩),.pointer (some ⟨oB,0,none⟩)]),ZM.rules (decide (a≠2)) rs)]:List VU)).flatMap RS=ds.flatMap RS++[.int .u32 num,.func (.func 167) #[] #[.pointer (some ⟨mB,0,none⟩),.pointer (some ⟨eB,0,none⟩),.pointer (some ⟨aB,0,none⟩),.pointer (some ⟨oB,0,none⟩)]]):=by show _=_;rw[acb];rfl
   go_wp2_with (first|(refine Great.wpList_buildSliceTo rfl 216 BI 1 _ rfl _ rfl _ rfl underlying216 #[.int .u32 num,.func (.func 167) #[] #[.pointer (some ⟨mB,0,none⟩),.pointer (some ⟨eB,0,none⟩),.pointer (some ⟨aB,0,none⟩),.pointer (some ⟨oB,0,none⟩)]] jK ?_)|(at_builtin;refine adg _ rfl _ _ 216 rfl w.heap.size BI iP (.agg #[.int .u32 0,.nilFunc]) 2 16 underlying216 hi hz0 hz1 hz2 rfl jD _ i _ rfl (I.own.alloc _) ⟨wa.heap.size,0,none⟩ 1 1 [.int .u32 num,.func (.func 167) #[] #[.pointer (some ⟨mB,0,none⟩),.pointer (some ⟨eB,0,none⟩),.pointer (some ⟨aB,0,none⟩),.pointer (some ⟨oB,0,none⟩)]] rfl ?c1 ?c2 ?c3 ?c4 ?c5 ?c6 ?_;(case c1=>rfl);(case c2=>exact Y1 rfl);(case c3=>intro u hu;simp only[abf,ajf,atg] at hu;rcases hu with rfl|rfl<;>rfl);(case c4=>unfold maxLen;omega);(case c5=>omega);(case c6=>simp;omega);intro v' w6 C J _;obtain⟨sa,sc,rfl⟩:=ZI C;have HW:=aT C;have D:=aT (Zj (aea wa _ _) J);clear C J))
   have yY:=aT (Ut.grown D cE (λr e=>(I.own.lt r e).1));have ly:=aT (Gk.mono (λB t cs ht h=>Zf I.own D h (ana ht)));have cD:Below N wa w6:=(aH N wa).grown D (aO hN cE) (λr e=>aO hN (I.own.lt r e).1);have yX:Hid (WB N w.heap.size a mB pB aB oB (ZA q) w6 (.slice sa (i+1) sc) (i+1) (ds++[(⟨num,cI⟩,(167,#[.pointer (some ⟨mB,0,none⟩),.pointer (some ⟨eB,0,none⟩),.pointer (some ⟨aB,0,none⟩),.pointer (some ⟨oB,0,none⟩)]),ZM.rules (decide (a≠2)) rs)]) ((es.take (i+1)).map (VD a))):=by
    refine⟨by rw[HX.out];exact HW,by rw[ay,I.out.len];rfl,λx hx=> ?_,?_⟩
    ·rcases abe.1 hx with hx|hx;·exact(I.does x hx).mono (λB cs h=>Zf I.own D h jD) cD (aR _)
     ·rw[aac.1 hx];exact⟨rfl,HRC.1,cG,HRC.2,eB,_,_,rfl,Zf I.own D Ls jD,sG.below cD (aR _)⟩
    ·rw[acf,I.out.src,afb,HEN.out,acf];rfl
   have iw:=jW i;clear z0 cD HW D HX Ls Ut Gk I sG;go_wp2_with fail;go_roundg (L-i);case measure=>omega
   case rel=>exact⟨i+1,_,jO,jO,by go_num,yY,ly,yX⟩
  ·obtain rfl:L=i:=by omega
   have Y8:¬(L:Int)<(L:Int):=jO;rw[abd (by rw[HL.out];exact aR _)] at T;have ca:=cell1 sH.ha;obtain⟨va,vc,rfl⟩:=ZI T.own;by_cases ha2:a=2
   ·have cz:((a:Int) == 2)=true:=by rw[ahd];omega
    have hbl:=HB.size;have HX:Hid ((ds++[(⟨102,jD⟩,(169,#[.pointer (some ⟨mB,0,none⟩),.pointer (some ⟨pB,0,none⟩),.pointer (some ⟨oB,0,none⟩)]),ZM.subs s0),(⟨117,jD⟩,(171,#[.pointer (some ⟨mB,0,none⟩),.pointer (some ⟨pB,0,none⟩),.pointer (some ⟨oB,0,none⟩)]),ZM.subs s1)]:List VU).flatMap RS=ds.flatMap RS++[.int .u32 102,.func (.func 169) #[] #[.pointer (some ⟨mB,0,none⟩),.pointer (some ⟨pB,0,none⟩),.pointer (some ⟨oB,0,none⟩)],.int .u32 117,.func (.func 171) #[] #[.pointer (some ⟨mB,0,none⟩),.pointer (some ⟨pB,0,none⟩),.pointer (some ⟨oB,0,none⟩)]]):=by show _=_;rw[acb];rfl
    go_wp2_with (first|(refine Great.wpList_buildSliceTo rfl 216 BI 2 _ rfl _ rfl _ rfl underlying216 #[.int .u32 102,.func (.func 169) #[] #[.pointer (some ⟨mB,0,none⟩),.pointer (some ⟨pB,0,none⟩),.pointer (some ⟨oB,0,none⟩)],.int .u32 117,.func (.func 171) #[] #[.pointer (some ⟨mB,0,none⟩),.pointer (some ⟨pB,0,none⟩),.pointer (some ⟨oB,0,none⟩)]] jK ?_)|(at_builtin;refine adg _ rfl _ _ 216 rfl w.heap.size BI iP (.agg #[.int .u32 0,.nilFunc]) 2 16 underlying216 hi hz0 hz1 hz2 rfl jD _ L _ rfl (T.own.alloc _) ⟨wr.heap.size,0,none⟩ 2 2 [.int .u32 102,.func (.func 169) #[] #[.pointer (some ⟨mB,0,none⟩),.pointer (some ⟨pB,0,none⟩),.pointer (some ⟨oB,0,none⟩)],.int .u32 117,.func (.func 171) #[] #[.pointer (some ⟨mB,0,none⟩),.pointer (some ⟨pB,0,none⟩),.pointer (some ⟨oB,0,none⟩)]] rfl ?c1 ?c2 ?c3 ?c4 ?c5 ?c6 ?_;(case c1=>rfl);(case c2=>exact Y1 rfl);(case c3=>intro u hu;simp only[abf,ajf,atg] at hu;rcases hu with rfl|rfl|rfl|rfl<;>rfl);(case c4=>unfold maxLen;omega);(case c5=>omega);(case c6=>simp;omega);intro v' w6 C J _;obtain⟨sa,sc,rfl⟩:=ZI C;have HW:=aT C;have D:=aT (Zj (aea wr _ _) J);clear C J)|(go_at_call 172;fail))
    have yY:=aT (HB.grown D hbl (λr e=>(T.own.lt r e).1));have ly:=aT (sH.mono (λB t cs ht h=>Zf T.own D h (ana ht)));have cD:Below N wr w6:=(aH N wr).grown D (aO hN hbl) (λr e=>aO hN (T.own.lt r e).1);have yX:Hid (WB N w.heap.size a mB pB aB oB (ZA q) w6 (.slice sa (L+2) sc) (L+2) (ds++[(⟨102,jD⟩,(169,#[.pointer (some ⟨mB,0,none⟩),.pointer (some ⟨pB,0,none⟩),.pointer (some ⟨oB,0,none⟩)]),ZM.subs s0),(⟨117,jD⟩,(171,#[.pointer (some ⟨mB,0,none⟩),.pointer (some ⟨pB,0,none⟩),.pointer (some ⟨oB,0,none⟩)]),ZM.subs s1)]) (ZZ a es s0 s1)):=by
     refine⟨by rw[HX.out];exact HW,by rw[ay,T.out.len];rfl,λx hx=> ?_,?_⟩
     ·rcases abe.1 hx with hx|hx;·exact(T.does x hx).mono (λB cs h=>Zf T.own D h jD) cD (aR _)
      ·have cB:Below N w w6:=(HB.mono hN).trans cD;rcases abf.1 hx with rfl|hx;·exact⟨Fv.1,Fv.2.1,Fv.2.2,VO q.s0,Uj.below cB (aR _),.inl ⟨rfl,rfl⟩⟩
       ·rw[aac.1 hx];exact⟨zl.1,zl.2.1,zl.2.2,VO q.s1,Nt.below cB (aR _),.inr ⟨rfl,rfl⟩⟩
     ·unfold ZZ;rw[aG ha2,acf,T.out.src];rfl
    have HC:=aT (KP yX ly yY hN jO);clear cD HW D HX T HB sH yX ly yY ca;refine HC.mono ?_;rintro e w7 ⟨rfl,ds',src',hp,hx,hb,Y,U⟩;have HR:=aT (And.intro hb (And.intro hx (And.intro hp (And.intro Y U))));clear hb hx hp Y U HC;go_wp2_with fail;go_ret;obtain⟨hb,hx,hp,Y,U⟩:=HR.out;exact⟨_,mB,pB,aB,oB,ds',src',rfl,hb,hx,by rw[hp.len];exact hp,Y,U⟩
   ·have cz:((a:Int) == 2)=false:=by rw[ae];omega
    have yX:Hid (WB N w.heap.size a mB pB aB oB (ZA q) wr (.slice va L vc) L ds (ZZ a es s0 s1)):=by refine⟨T.own,T.len,T.does,?_⟩;unfold ZZ;rw[aN ha2,ade];exact T.src
    have HC:=aT (KP yX sH HB hN jO);clear T HB sH yX;go_wp2_with fail;refine HC.mono ?_;rintro e w7 ⟨rfl,ds',src',hp,hx,hb,Y,U⟩;have HR:=aT (And.intro hb (And.intro hx (And.intro hp (And.intro Y U))));clear hb hx hp Y U HC ca;go_wp2_with fail;go_ret;obtain⟨hb,hx,hp,Y,U⟩:=HR.out;exact⟨_,mB,pB,aB,oB,ds',src',rfl,hb,hx,by rw[hp.len];exact hp,Y,U⟩
theorem sF(V M:BitVec 64):V &&& ~~~M=0#64↔V &&& M=V:=by
 constructor
 ·intro h
  ext i hi
  have A:=aq (λz=>z.getLsbD i) h;simp[hi] at A ⊢;cases hv:V[i]<;>cases hm:M[i]<;>simp_all
 ·intro h
  ext i hi
  have A:=aq (λz=>z.getLsbD i) h;simp[hi] at A ⊢;cases hv:V[i]<;>cases hm:M[i]<;>simp_all
theorem MK{v m:Nat}(hv:v<Yf)(hm:m<Yf):bits .andNot .u64 (v:Int) (m:Int)=0↔(v &&& m)=v:=by
 have e1:(Yf:Nat)=2 ^ 64:=jD;show IntKind.u64.wrap ((BitVec.ofInt 64 (v:Int) &&& ~~~ BitVec.ofInt 64 (m:Int)).toNat:Int)=0↔_;rw[BitVec.ofInt_natCast,BitVec.ofInt_natCast];have D:=(BitVec.ofNat 64 v &&& ~~~ BitVec.ofNat 64 m).isLt;have A:=sF (BitVec.ofNat 64 v) (BitVec.ofNat 64 m);have hw:IntKind.u64.wrap ((BitVec.ofNat 64 v &&& ~~~ BitVec.ofNat 64 m).toNat:Int)=((BitVec.ofNat 64 v &&& ~~~ BitVec.ofNat 64 m).toNat:Int):=by rw[IntKind.wrap_u64];omega
 rw[hw];have a:((BitVec.ofNat 64 v &&& ~~~ BitVec.ofNat 64 m).toNat:Int)=0↔BitVec.ofNat 64 v &&& ~~~ BitVec.ofNat 64 m=0#64:=by
  constructor;·intro h;apply BitVec.eq_of_toNat_eq;have:(BitVec.ofNat 64 v &&& ~~~ BitVec.ofNat 64 m).toNat=0:=jO;rw[this];rfl
  ·intro h;rw[h];rfl
 have b:BitVec.ofNat 64 v &&& BitVec.ofNat 64 m=BitVec.ofNat 64 v↔(v &&& m)=v:=by
  constructor;·intro h;have C:=aq BitVec.toNat h;rw[BitVec.toNat_and,azd,azd,alf jO,alf jO] at C;exact C
  ·intro h;apply BitVec.eq_of_toNat_eq;rw[BitVec.toNat_and,azd,azd,alf jO,alf jO];exact h
 exact a.trans (A.trans b)
def cC(c:Z5):Array Value:=#[.int .i64 c.a,.int .i64 c.o,.int .u64 c.m,.int .u64 c.v]
def mZ:Yx->Z5
 | .asks c=>c
 | .always=>⟨0,0,0,0⟩
 | .never=>⟨0,0,0,0⟩
def cA:Yx->Int
 | .asks _=>0
 | .always=>1
 | .never=>2
def V8(s:Yx)(w:World):Ending->World->Prop:=λe w'=>e=.returned (.tuple #[.agg #[.int .i64 ((mZ s).a:Int),.int .i64 ((mZ s).o:Int),.int .u64 ((mZ s).m:Int),.int .u64 ((mZ s).v:Int)],.int .i64 (cA s)])/\Below w.heap.size w w'
theorem Z7.O9(W:World)(o:Obj)(t:TypeId)(cs:Array Value):Z7 ((W.alloc o).alloc (.cells cs t)) (W.heap.size+1) t cs:=by
 have h:=Z7.new (W.alloc o) t cs;rwa [ah] at h
theorem Z7.ah3(W:World)(o A:Obj)(t:TypeId)(cs:Array Value):Z7 (((W.alloc o).alloc A).alloc (.cells cs t)) (W.heap.size+2) t cs:=by
 have h:=Z7.O9 (W.alloc o) A t cs;rwa [ah] at h
theorem Yl(W:World)(o:Obj):Below W.heap.size W (W.alloc o):=(aH _ W).alloc (aR _) _
theorem KM(W:World)(o A:Obj):Below W.heap.size W ((W.alloc o).alloc A):=(Yl W o).alloc jS _
theorem ah4(W:World)(o A C:Obj):Below W.heap.size W (((W.alloc o).alloc A).alloc C):=(KM W o A).alloc (by simp;omega) _
theorem Zv{fn:Func}{t u:Tmp}(h:fn.results=#[.cell t 68,.tmp u]){tmps:Array Value}{c0 c1:Value}(hb:Z7 W R 68 #[c0,c1,c2,c3])(ht:tmps.getD t undef=.pointer (some ⟨R,0,none⟩)):(results fn tmps).run prog W=.ok (.tuple #[.agg #[c0,c1,c2,c3],tmps.getD u undef]) W:=by
 have e0:=hb.cell 0;have e1:=hb.cell 1;have e2:=hb.cell 2;have e3:=hb.cell 3;rw[aif] at ht;simp at e0 e1 e2 e3;simp[results,h,go_sem,ht,e0,e1,e2,e3]
theorem ZG{c0 c1:Value}(hb:Z7 W R t #[c0,c1,c2,c3])(D I C A:Value):Z7 ((((W.setCell ⟨R,0,none⟩ D).setCell ⟨R,1,none⟩ I).setCell ⟨R,2,none⟩ C).setCell ⟨R,3,none⟩ A) R t #[D,I,C,A]:=(((hb.set 0 D).set 1 I).set 2 C).set 3 A
theorem ZF {n:Nat}(hb:Below n w W)(h:n<=R)(D I A C:Value):Below n w ((((W.setCell ⟨R,0,none⟩ D).setCell ⟨R,1,none⟩ I).setCell ⟨R,2,none⟩ A).setCell ⟨R,3,none⟩ C):=(((hb.setCell (p:=⟨R,0,none⟩) h D).setCell (p:=⟨R,1,none⟩) h I).setCell (p:=⟨R,2,none⟩) h A).setCell (p:=⟨R,3,none⟩) h C
theorem Z8{c0 c1:Value}(hb:Z7 W R t #[c0,c1,c2,c3]):(W.cell? ⟨R,0,none⟩=some c0/\W.cell? ⟨R,1,none⟩=some c1/\W.cell? ⟨R,2,none⟩=some c2/\W.cell? ⟨R,3,none⟩=some c3)/\W.frozen? ⟨R,0,none⟩=false/\W.frozen? ⟨R,1,none⟩=false/\W.frozen? ⟨R,2,none⟩=false/\W.frozen? ⟨R,3,none⟩=false:=by
 obtain⟨e0,e1,e2,e3⟩:=hb.q4;exact⟨⟨e0,e1,e2,e3⟩,hb.frozen 0,hb.frozen 1,hb.frozen 2,hb.frozen 3⟩
theorem Q4(b:Bool)(w:World):Calls prog 216 #[.bool b] w (V8 (if b then .always else .never) w):=by
 cases b with
 |true=>
  go_enter func216,ntmps216;go_wp2_with fail;refine aag (Zv rfl (Z7.new w _ _) rfl) rfl ?_;exact⟨rfl,Yl w _⟩
 |false=>
  go_enter func216,ntmps216;go_wp2_with fail;refine aag (Zv rfl (Z7.new w _ _) rfl) rfl ?_;exact⟨rfl,Yl w _⟩
theorem UL(c:Z5)(op u:Nat)(w:World):Calls prog 340 #[.agg (cC c),.int .i64 op,.int .u64 u] w (V8 (.asks ⟨c.a,op,0,u⟩) w):=by
 obtain⟨a,o,m,v⟩:=c;unfold cC;dsimp only;go_enter func340,ntmps340;go_wp2_with fail;refine aag (Zv rfl (Z7.O9 _ _ _ _) rfl) rfl ?_;exact⟨rfl,KM w _ _⟩
theorem Xf(c:Z5)(w:World)(t:Nat):Hid (Z7 ((w.alloc (.cells (cC c) t)).alloc (.cells #[.int .i64 0,.int .i64 0,.int .u64 0,.int .u64 0] t)) w.heap.size t (cC c))/\Hid (Z7 ((w.alloc (.cells (cC c) t)).alloc (.cells #[.int .i64 0,.int .i64 0,.int .u64 0,.int .u64 0] t)) (w.heap.size+1) t #[.int .i64 0,.int .i64 0,.int .u64 0,.int .u64 0])/\Hid (Below w.heap.size w ((w.alloc (.cells (cC c) t)).alloc (.cells #[.int .i64 0,.int .i64 0,.int .u64 0,.int .u64 0] t))):=
 ⟨(Z7.new w _ _).alloc _,Z7.O9 _ _ _ _,KM w _ _⟩
theorem KL(c:Z5)(u:Nat)(w:World):Calls prog 287 #[.agg (cC c),.int .u64 u] w (V8 (Ym c u) w):=by
 generalize hS:Ym c u=S;have Y:=aT hS;clear hS;obtain⟨HP,D,I⟩:=Xf c w 68;have HC:=aT (λop u W=>UL c op u W);obtain⟨a,o,m,v⟩:=c;unfold cC at*;dsimp only at*;go_enter func287,ntmps287;go_upto_region 1 with fail;generalize (w.alloc (.cells #[.int .i64 a,.int .i64 o,.int .u64 m,.int .u64 v] 68)).alloc (.cells #[.int .i64 0,.int .i64 0,.int .u64 0,.int .u64 0] 68)=w1 at*;obtain⟨⟨p0,p1,p2,p3⟩,_⟩:=Z8 HP;obtain⟨R,hR⟩:=jX (w.heap.size+1);rw[hR] at D ⊢;have J:w.heap.size<=R:=jO;clear hR;by_cases T:u=0
 ·subst T;go_wp2_with fail;refine(Q4 false w1).mono ?_;rintro e w2 ⟨rfl,hb⟩;have A:=aT (D.below hb D.lt);have C:=aT (I.trans (hb.mono I.size));obtain⟨⟨r0,r1,r2,r3⟩,Z,f1,f2,f3⟩:=Z8 A;clear hb D I;go_wp2_with fail;refine aag (Zv rfl (ZG A _ _ _ _) rfl) rfl ?_;exact⟨by rw[<-Y.out];first|(unfold Ym;rw[aG rfl];rfl)|(unfold XC;rw[aG rfl];rfl)|(unfold WH;rw[aG rfl];rfl)|(rw[aG rfl];rfl),ZF C J _ _ _ _⟩
 ·have h0':((u:Int) == 0)=false:=by rw[ae];omega
  by_cases U:u=1;·subst U;go_wp2_with fail;refine(HC 1 0 w1).mono ?_;rintro e w2 ⟨rfl,hb⟩;have A:=aT (D.below hb D.lt);have C:=aT (I.trans (hb.mono I.size));obtain⟨⟨r0,r1,r2,r3⟩,Z,f1,f2,f3⟩:=Z8 A;clear hb D I;go_wp2_with fail;refine aag (Zv rfl (ZG A _ _ _ _) rfl) rfl ?_;exact⟨by rw[<-Y.out];first|(unfold Ym;rw[aN jD,aG rfl];rfl)|(unfold XC;rw[aN jD,aG rfl];rfl)|(unfold WH;rw[aN jD,aG rfl];rfl)|(rw[aN jD,aG rfl];rfl),ZF C J _ _ _ _⟩
  ·have h1':((u:Int) == 1)=false:=by rw[ae];omega
   go_wp2_with fail;refine(HC 3 u w1).mono ?_;rintro e w2 ⟨rfl,hb⟩;have A:=aT (D.below hb D.lt);have C:=aT (I.trans (hb.mono I.size));obtain⟨⟨r0,r1,r2,r3⟩,Z,f1,f2,f3⟩:=Z8 A;clear hb D I;go_wp2_with fail;refine aag (Zv rfl (ZG A _ _ _ _) rfl) rfl ?_;exact⟨by rw[<-Y.out];first|(unfold Ym;rw[aN T,aN U];rfl)|(unfold XC;rw[aN T,aN U];rfl)|(unfold WH;rw[aN T,aN U];rfl)|(rw[aN T,aN U];rfl),ZF C J _ _ _ _⟩
theorem IK(c:Z5)(u:Nat)(w:World):Calls prog 289 #[.agg (cC c),.int .u64 u] w (V8 (XC c u) w):=by
 generalize hS:XC c u=S;have HS:=aT hS;clear hS;obtain⟨HP,D,T⟩:=Xf c w 68;have HC:=aT (λop u W=>UL c op u W);obtain⟨a,o,m,v⟩:=c;unfold cC at*;dsimp only at*;go_enter func289,ntmps289;go_upto_region 1 with fail;generalize (w.alloc (.cells #[.int .i64 a,.int .i64 o,.int .u64 m,.int .u64 v] 68)).alloc (.cells #[.int .i64 0,.int .i64 0,.int .u64 0,.int .u64 0] 68)=w1 at*;obtain⟨⟨p0,p1,p2,p3⟩,_⟩:=Z8 HP;obtain⟨R,hR⟩:=jX (w.heap.size+1);rw[hR] at D ⊢;have U:w.heap.size<=R:=jO;clear hR;by_cases I:u=0
 ·subst I;go_wp2_with fail;refine(Q4 true w1).mono ?_;rintro e w2 ⟨rfl,hb⟩;have A:=aT (D.below hb D.lt);have C:=aT (T.trans (hb.mono T.size));obtain⟨⟨r0,r1,r2,r3⟩,f0,f1,f2,f3⟩:=Z8 A;clear hb D T;go_wp2_with fail;refine aag (Zv rfl (ZG A _ _ _ _) rfl) rfl ?_;exact⟨by rw[<-HS.out];first|(unfold Ym;rw[aG rfl];rfl)|(unfold XC;rw[aG rfl];rfl)|(unfold WH;rw[aG rfl];rfl)|(rw[aG rfl];rfl),ZF C U _ _ _ _⟩
 ·have h0':((u:Int) == 0)=false:=by rw[ae];omega
  by_cases Y:u=Yf-1
  ·have Z:((u:Int) == 18446744073709551615)=true:=by rw[ahd,Y];unfold Yf;omega
   have J:=aT Y;clear Y;go_wp2_with fail;refine(HC 1 u w1).mono ?_;rintro e w2 ⟨rfl,hb⟩;have A:=aT (D.below hb D.lt);have C:=aT (T.trans (hb.mono T.size));obtain⟨⟨r0,r1,r2,r3⟩,f0,f1,f2,f3⟩:=Z8 A;clear hb D T;go_wp2_with fail;refine aag (Zv rfl (ZG A _ _ _ _) rfl) rfl ?_;exact⟨by rw[<-HS.out];first|(unfold Ym;rw[aN I,aG J.out];rfl)|(unfold XC;rw[aN I,aG J.out];rfl)|(unfold WH;rw[aN I,aG J.out];rfl)|(rw[aN I,aG J.out];rfl),ZF C U _ _ _ _⟩
  ·have Z:((u:Int) == 18446744073709551615)=false:=by
    rw[ae];intro e;apply Y;unfold Yf;omega
   have J:=aT Y;clear Y;go_wp2_with fail;refine(HC 6 u w1).mono ?_;rintro e w2 ⟨rfl,hb⟩;have A:=aT (D.below hb D.lt);have C:=aT (T.trans (hb.mono T.size));obtain⟨⟨r0,r1,r2,r3⟩,f0,f1,f2,f3⟩:=Z8 A;clear hb D T;go_wp2_with fail;refine aag (Zv rfl (ZG A _ _ _ _) rfl) rfl ?_;exact⟨by rw[<-HS.out];first|(unfold Ym;rw[aN I,aN J.out];rfl)|(unfold XC;rw[aN I,aN J.out];rfl)|(unfold WH;rw[aN I,aN J.out];rfl)|(rw[aN I,aN J.out];rfl),ZF C U _ _ _ _⟩
theorem wU(c:Z5)(hm:c.m<Yf)(hv:c.v<Yf)(w:World):Calls prog 285 #[.agg (cC c)] w (V8 (WH c) w):=by
 generalize hS:WH c=S;have HS:=aT hS;clear hS;obtain⟨HP,I,T⟩:=Xf c w 68;have HC:=aT (λop u W=>UL c op u W);have hk:=MK hv hm;obtain⟨a,o,m,v⟩:=c;unfold cC at*;dsimp only at*;go_enter func285,ntmps285;go_upto_region 1 with fail;generalize (w.alloc (.cells #[.int .i64 a,.int .i64 o,.int .u64 m,.int .u64 v] 68)).alloc (.cells #[.int .i64 0,.int .i64 0,.int .u64 0,.int .u64 0] 68)=w1 at*;obtain⟨⟨p0,p1,p2,p3⟩,_⟩:=Z8 HP;obtain⟨R,hR⟩:=jX (w.heap.size+1);rw[hR] at I ⊢;have U:w.heap.size<=R:=jO;clear hR;by_cases h0:bits .andNot .u64 (v:Int) (m:Int)=0
 ·have hn:¬(v &&& m)≠v:=λe=>e (hk.1 h0)
  have A:=aT hn;have lQ:(bits .andNot .u64 (v:Int) (m:Int) != 0)=false:=by simpa using h0
  clear hn hk;by_cases h1:m=0
  ·have h1z:((m:Int) == 0)=true:=by rw[ahd];omega
   have D:=aT h1;clear h1;go_wp2_with fail;refine(Q4 true w1).mono ?_;rintro e w2 ⟨rfl,hb⟩;have C:=aT (I.below hb I.lt);have J:=aT (T.trans (hb.mono T.size));obtain⟨⟨r0,r1,r2,r3⟩,f0,f1,f2,f3⟩:=Z8 C;clear hb I T;go_wp2_with fail;refine aag (Zv rfl (ZG C _ _ _ _) rfl) rfl ?_;exact⟨by rw[<-HS.out];first|(unfold Ym;rw[aN A.out,aG D.out];rfl)|(unfold XC;rw[aN A.out,aG D.out];rfl)|(unfold WH;rw[aN A.out,aG D.out];rfl)|(rw[aN A.out,aG D.out];rfl),ZF J U _ _ _ _⟩
  ·have h1z:((m:Int) == 0)=false:=by rw[ae];omega
   have D:=aT h1;clear h1;by_cases Z:m=Yf-1
   ·have h2z:((m:Int) == 18446744073709551615)=true:=by rw[ahd,Z];unfold Yf;omega
    have Y:=aT Z;clear Z;go_wp2_with fail;refine(HC 1 v w1).mono ?_;rintro e w2 ⟨rfl,hb⟩;have C:=aT (I.below hb I.lt);have J:=aT (T.trans (hb.mono T.size));obtain⟨⟨r0,r1,r2,r3⟩,f0,f1,f2,f3⟩:=Z8 C;clear hb I T;go_wp2_with fail;refine aag (Zv rfl (ZG C _ _ _ _) rfl) rfl ?_;exact⟨by rw[<-HS.out];first|(unfold Ym;rw[aN A.out,aN D.out,aG Y.out];rfl)|(unfold XC;rw[aN A.out,aN D.out,aG Y.out];rfl)|(unfold WH;rw[aN A.out,aN D.out,aG Y.out];rfl)|(rw[aN A.out,aN D.out,aG Y.out];rfl),ZF J U _ _ _ _⟩
   ·have h2z:((m:Int) == 18446744073709551615)=false:=by rw[ae];intro e;apply Z;unfold Yf;omega
    have Y:=aT Z;clear Z;obtain⟨⟨r0,r1,r2,r3⟩,f0,f1,f2,f3⟩:=Z8 I;go_wp2_with fail;refine aag (Zv rfl (ZG I _ _ _ _) rfl) rfl ?_;exact⟨by rw[<-HS.out];first|(unfold Ym;rw[aN A.out,aN D.out,aN Y.out];rfl)|(unfold XC;rw[aN A.out,aN D.out,aN Y.out];rfl)|(unfold WH;rw[aN A.out,aN D.out,aN Y.out];rfl)|(rw[aN A.out,aN D.out,aN Y.out];rfl),ZF T U _ _ _ _⟩
 ·have hn:(v &&& m)≠v:=λe=>h0 (hk.2 e)
  have A:=aT hn;have lQ:(bits .andNot .u64 (v:Int) (m:Int) != 0)=true:=by simpa using h0
  clear hn hk;go_wp2_with fail;refine(Q4 false w1).mono ?_;rintro e w2 ⟨rfl,hb⟩;have C:=aT (I.below hb I.lt);have J:=aT (T.trans (hb.mono T.size));obtain⟨⟨r0,r1,r2,r3⟩,f0,f1,f2,f3⟩:=Z8 C;clear hb I T;go_wp2_with fail;refine aag (Zv rfl (ZG C _ _ _ _) rfl) rfl ?_;exact⟨by rw[<-HS.out];first|(unfold Ym;rw[aG A.out];rfl)|(unfold XC;rw[aG A.out];rfl)|(unfold WH;rw[aG A.out];rfl)|(rw[aG A.out];rfl),ZF J U _ _ _ _⟩
theorem yV(c:Z5)(w:World):Calls prog 284 #[.agg (cC c)] w (V8 (.asks c) w):=by
 obtain⟨I,A,J⟩:=Xf c w 68;have T:=aT (λop u W=>UL c op u W);obtain⟨a,o,m,v⟩:=c;unfold cC at*;dsimp only at*;go_enter func284,ntmps284;go_upto_region 1 with fail;generalize (w.alloc (.cells #[.int .i64 a,.int .i64 o,.int .u64 m,.int .u64 v] 68)).alloc (.cells #[.int .i64 0,.int .i64 0,.int .u64 0,.int .u64 0] 68)=w1 at*;obtain⟨⟨p0,p1,p2,p3⟩,_⟩:=Z8 I;obtain⟨R,D⟩:=jX (w.heap.size+1);rw[D] at A ⊢;have C:w.heap.size<=R:=jO;clear D;obtain⟨⟨r0,r1,r2,r3⟩,U,f1,Y,Z⟩:=Z8 A;go_wp2_with fail;refine aag (Zv rfl (ZG A _ _ _ _) rfl) rfl ?_;exact⟨rfl,ZF J C _ _ _ _⟩
theorem lx(c:Z5)(w:World):Calls prog 286 #[.agg (cC c)] w (V8 (Ym c c.v) w):=by
 obtain⟨Y,C,J⟩:=Xf c w 68;have HC:=aT (λop u W=>UL c op u W);have U:=aT (λu W=>KL c u W);obtain⟨a,o,m,v⟩:=c;unfold cC at*;dsimp only at*;go_enter func286,ntmps286;go_upto_region 1 with fail;generalize (w.alloc (.cells #[.int .i64 a,.int .i64 o,.int .u64 m,.int .u64 v] 68)).alloc (.cells #[.int .i64 0,.int .i64 0,.int .u64 0,.int .u64 0] 68)=w1 at*;obtain⟨⟨p0,p1,p2,p3⟩,_⟩:=Z8 Y;obtain⟨R,T⟩:=jX (w.heap.size+1);rw[T] at C ⊢;have D:w.heap.size<=R:=jO;clear T;go_wp2_with fail;refine(U v w1).mono ?_;rintro e w2 ⟨rfl,hb⟩;have A:=aT (C.below hb C.lt);have I:=aT (J.trans (hb.mono J.size));obtain⟨⟨r0,r1,r2,r3⟩,Z,f1,f2,f3⟩:=Z8 A;clear hb C J;go_wp2_with fail;refine aag (Zv rfl (ZG A _ _ _ _) rfl) rfl ?_;exact⟨rfl,ZF I D _ _ _ _⟩
theorem lu(c:Z5)(w:World):Calls prog 288 #[.agg (cC c)] w (V8 (XC c c.v) w):=by
 obtain⟨Y,C,J⟩:=Xf c w 68;have HC:=aT (λop u W=>UL c op u W);have U:=aT (λu W=>IK c u W);obtain⟨a,o,m,v⟩:=c;unfold cC at*;dsimp only at*;go_enter func288,ntmps288;go_upto_region 1 with fail;generalize (w.alloc (.cells #[.int .i64 a,.int .i64 o,.int .u64 m,.int .u64 v] 68)).alloc (.cells #[.int .i64 0,.int .i64 0,.int .u64 0,.int .u64 0] 68)=w1 at*;obtain⟨⟨p0,p1,p2,p3⟩,_⟩:=Z8 Y;obtain⟨R,T⟩:=jX (w.heap.size+1);rw[T] at C ⊢;have D:w.heap.size<=R:=jO;clear T;go_wp2_with fail;refine(U v w1).mono ?_;rintro e w2 ⟨rfl,hb⟩;have A:=aT (C.below hb C.lt);have I:=aT (J.trans (hb.mono J.size));obtain⟨⟨r0,r1,r2,r3⟩,Z,f1,f2,f3⟩:=Z8 A;clear hb C J;go_wp2_with fail;refine aag (Zv rfl (ZG A _ _ _ _) rfl) rfl ?_;exact⟨rfl,ZF I D _ _ _ _⟩
theorem lq(c:Z5)(hv:c.v<Yf)(w:World):Calls prog 290 #[.agg (cC c)] w (V8 (if c.v=Yf-1 then .always else Ym c (c.v+1)) w):=by
 generalize hS:(if c.v=Yf-1 then Yx.always else Ym c (c.v+1))=S;have HS:=aT hS;clear hS;obtain⟨HP,C,T⟩:=Xf c w 68;have HC:=aT (λop u W=>UL c op u W);have HU:=aT (λu W=>KL c u W);obtain⟨a,o,m,v⟩:=c;unfold cC at*;dsimp only at*;go_enter func290,ntmps290;go_upto_region 1 with fail;generalize (w.alloc (.cells #[.int .i64 a,.int .i64 o,.int .u64 m,.int .u64 v] 68)).alloc (.cells #[.int .i64 0,.int .i64 0,.int .u64 0,.int .u64 0] 68)=w1 at*;obtain⟨⟨p0,p1,p2,p3⟩,_⟩:=Z8 HP;obtain⟨R,hR⟩:=jX (w.heap.size+1);rw[hR] at C ⊢;have U:w.heap.size<=R:=jO;clear hR;by_cases J:v=Yf-1
 ·have Y:((v:Int) == 18446744073709551615)=true:=by rw[ahd,J];unfold Yf;omega
  have I:=aT J;clear J hv;go_wp2_with fail;refine(Q4 true w1).mono ?_;rintro e w2 ⟨rfl,hb⟩;have A:=aT (C.below hb C.lt);have D:=aT (T.trans (hb.mono T.size));obtain⟨⟨r0,r1,r2,r3⟩,f0,f1,f2,f3⟩:=Z8 A;clear hb C T;go_wp2_with fail;refine aag (Zv rfl (ZG A _ _ _ _) rfl) rfl ?_;exact⟨by rw[<-HS.out];first|(unfold Ym;rw[aG I.out];rfl)|(unfold XC;rw[aG I.out];rfl)|(unfold WH;rw[aG I.out];rfl)|(rw[aG I.out];rfl),ZF D U _ _ _ _⟩
 ·have Z:v+1<18446744073709551616:=by unfold Yf at hv J;omega
  have Y:((v:Int) == 18446744073709551615)=false:=by rw[ae];omega
  have iw:IntKind.u64.wrap ((v:Int)+1)=((v+1:Nat):Int):=by rw[ava _ jO];omega
  obtain⟨x,hx⟩:=jX (v+1);rw[hx] at iw;have HX:=aT hx;have I:=aT J;clear hx hv Z J;go_wp2_with fail;refine(HU x w1).mono ?_;rintro e w2 ⟨rfl,hb⟩;have A:=aT (C.below hb C.lt);have D:=aT (T.trans (hb.mono T.size));obtain⟨⟨r0,r1,r2,r3⟩,f0,f1,f2,f3⟩:=Z8 A;clear hb C T;go_wp2_with fail;refine aag (Zv rfl (ZG A _ _ _ _) rfl) rfl ?_;exact⟨by rw[<-HS.out,aN I.out,HX.out];rfl,ZF D U _ _ _ _⟩
theorem lp(c:Z5)(hv:c.v<Yf)(w:World):Calls prog 291 #[.agg (cC c)] w (V8 (if c.v=Yf-1 then .never else XC c (c.v+1)) w):=by
 generalize hS:(if c.v=Yf-1 then Yx.never else XC c (c.v+1))=S;have HS:=aT hS;clear hS;obtain⟨HP,C,T⟩:=Xf c w 68;have HC:=aT (λop u W=>UL c op u W);have HU:=aT (λu W=>IK c u W);obtain⟨a,o,m,v⟩:=c;unfold cC at*;dsimp only at*;go_enter func291,ntmps291;go_upto_region 1 with fail;generalize (w.alloc (.cells #[.int .i64 a,.int .i64 o,.int .u64 m,.int .u64 v] 68)).alloc (.cells #[.int .i64 0,.int .i64 0,.int .u64 0,.int .u64 0] 68)=w1 at*;obtain⟨⟨p0,p1,p2,p3⟩,_⟩:=Z8 HP;obtain⟨R,hR⟩:=jX (w.heap.size+1);rw[hR] at C ⊢;have U:w.heap.size<=R:=jO;clear hR;by_cases J:v=Yf-1
 ·have Y:((v:Int) == 18446744073709551615)=true:=by rw[ahd,J];unfold Yf;omega
  have I:=aT J;clear J hv;go_wp2_with fail;refine(Q4 false w1).mono ?_;rintro e w2 ⟨rfl,hb⟩;have A:=aT (C.below hb C.lt);have D:=aT (T.trans (hb.mono T.size));obtain⟨⟨r0,r1,r2,r3⟩,f0,f1,f2,f3⟩:=Z8 A;clear hb C T;go_wp2_with fail;refine aag (Zv rfl (ZG A _ _ _ _) rfl) rfl ?_;exact⟨by rw[<-HS.out];first|(unfold Ym;rw[aG I.out];rfl)|(unfold XC;rw[aG I.out];rfl)|(unfold WH;rw[aG I.out];rfl)|(rw[aG I.out];rfl),ZF D U _ _ _ _⟩
 ·have Z:v+1<18446744073709551616:=by unfold Yf at hv J;omega
  have Y:((v:Int) == 18446744073709551615)=false:=by rw[ae];omega
  have iw:IntKind.u64.wrap ((v:Int)+1)=((v+1:Nat):Int):=by rw[ava _ jO];omega
  obtain⟨x,hx⟩:=jX (v+1);rw[hx] at iw;have HX:=aT hx;have I:=aT J;clear hx hv Z J;go_wp2_with fail;refine(HU x w1).mono ?_;rintro e w2 ⟨rfl,hb⟩;have A:=aT (C.below hb C.lt);have D:=aT (T.trans (hb.mono T.size));obtain⟨⟨r0,r1,r2,r3⟩,f0,f1,f2,f3⟩:=Z8 A;clear hb C T;go_wp2_with fail;refine aag (Zv rfl (ZG A _ _ _ _) rfl) rfl ?_;exact⟨by rw[<-HS.out,aN I.out,HX.out];rfl,ZF D U _ _ _ _⟩
def Ns:List (Value×Value):=[(.int .i64 1,(.func (.func 284) #[] #[])),(.int .i64 2,(.func (.func 284) #[] #[])),(.int .i64 7,(.func (.func 285) #[] #[])),(.int .i64 3,(.func (.func 286) #[] #[])),(.int .i64 6,(.func (.func 288) #[] #[])),(.int .i64 4,(.func (.func 290) #[] #[])),(.int .i64 5,(.func (.func 291) #[] #[]))]
def MJ(o:Nat):Nat:=if o=1\/o=2 then 284 else if o=3 then 286 else if o=4 then 290 else if o=5 then 291 else if o=6 then 288 else 285
theorem sD:Keyed prog 3:=int_keyed underlying3
theorem ah5(n:Int)(h: -9223372036854775808<=n/\n<=9223372036854775807):∃l,keyOf prog 3 (.int .i64 n)=some l:=⟨_,keyOf_int_mk underlying3 (by
 show(decide (IntKind.i64.min<=n)&&decide (n<=IntKind.i64.max))=true;rw[show IntKind.i64.min= -9223372036854775808 from jD,show IntKind.i64.max=9223372036854775807 from jD];simp only[agc,aed];exact h)⟩
theorem sA (h:1<=o/\o<=7):((Value.int .i64 o,Value.func (.func (MJ o)) #[] #[]):Value×Value)∈Ns:=by
 rcases (show o=1\/o=2\/o=3\/o=4\/o=5\/o=6\/o=7 from jO) with rfl|rfl|rfl|rfl|rfl|rfl|rfl<;>simp[Ns,MJ]
theorem wT {B:Nat}(h:ZB W B Ns)(ho:1<=o/\o<=7):(Instr.lookup 325 (.map (some B)) (.int .i64 o) false).run prog W=.ok (.func (.func (MJ o)) #[] #[]) W:=
 Xu underlying325 sD h (RV underlying3 jR) (ah5 _ jO) (sA ho) (by simp[Ns])
theorem wS(w:World):Calls prog 217 #[] w λe w'=>∃B,e=.returned (.map (some B))/\ZB w' B Ns/\Below w.heap.size w w':=by
 have D:= @apc prog;have A:=aT (Nz.made w);have I:=aT (Yl w (.map #[] 0));go_enter func217,ntmps217
 go_wp2_with (refine YU rfl rfl 325 _ _ _ rfl 3 261 sD underlying325 w w.heap.size _ A rfl _ _ rfl rfl ?hS ?hk ?hn ?_;(case hk=>exact ah5 _ jO);(case hS=>exact RV underlying3 jR);(case hn=>exact KZ jR);clear A;intro J C;have A:=aT C;clear C)
 go_ret;exact⟨w.heap.size,rfl,A.map,(aH w.heap.size w).grown A.grown (aR _) (λk e=>by have:=ax e;omega)⟩
end Go.Proofs.YtclgigmgbebhgaaGreatDoor
namespace Go.Proofs.YtclgigmgbebhgaaGreatDoor
open Tryz
open Go Go.Proofs Go.RowKit
def WL(x y:Int):Int:=if x<y then -1 else if y<x then 1 else 0
def lj:List Int->Int
 |[]=>0
 |x::l=>if x=0 then lj l else x
def wR(x y:Z5):Int:=lj [WL x.a y.a,WL x.o y.o,WL x.m y.m,WL x.v y.v]
theorem sy(x:Int)(w:World):Calls prog 300 #[.int .i64 x] w λe w'=>e=.returned (.bool false)/\w'=w:=by
 go_enter func300,ntmps300;go_wp2_with fail;go_ret;exact⟨jS,rfl⟩
theorem sx(x:Int)(w:World):Calls prog 301 #[.int .u64 x] w λe w'=>e=.returned (.bool false)/\w'=w:=by
 go_enter func301,ntmps301;go_wp2_with fail;go_ret;exact⟨jS,rfl⟩
theorem su(x y:Int)(w:World):Calls prog 220 #[.int .i64 x,.int .i64 y] w λe w'=>e=.returned (.int .i64 (WL x y))/\w'=w:=by
 generalize hS:WL x y=S;have A:=aT hS;clear hS;go_enter func220,ntmps220;go_wp2_with fail;refine(sy _ _).mono ?_;rintro e C ⟨rfl,rfl⟩;go_wp2_with fail;refine(sy _ _).mono ?_;rintro e C ⟨rfl,rfl⟩;by_cases D:x<y;·go_wp2_with fail;go_ret;exact⟨OL (by rw[<-A.out];unfold WL;split<;>(try split)<;>omega),rfl⟩
 ·by_cases I:y<x;·go_wp2_with fail;go_ret;exact⟨OL (by rw[<-A.out];unfold WL;split<;>(try split)<;>omega),rfl⟩
  ·go_wp2_with fail;go_ret;exact⟨OL (by rw[<-A.out];unfold WL;split<;>(try split)<;>omega),rfl⟩
theorem sr(x y:Int)(w:World):Calls prog 221 #[.int .u64 x,.int .u64 y] w λe w'=>e=.returned (.int .i64 (WL x y))/\w'=w:=by
 generalize hS:WL x y=S;have A:=aT hS;clear hS;go_enter func221,ntmps221;go_wp2_with fail;refine(sx _ _).mono ?_;rintro e C ⟨rfl,rfl⟩;go_wp2_with fail;refine(sx _ _).mono ?_;rintro e C ⟨rfl,rfl⟩;by_cases D:x<y;·go_wp2_with fail;go_ret;exact⟨OL (by rw[<-A.out];unfold WL;split<;>(try split)<;>omega),rfl⟩
 ·by_cases I:y<x;·go_wp2_with fail;go_ret;exact⟨OL (by rw[<-A.out];unfold WL;split<;>(try split)<;>omega),rfl⟩
  ·go_wp2_with fail;go_ret;exact⟨OL (by rw[<-A.out];unfold WL;split<;>(try split)<;>omega),rfl⟩
theorem sq{l:List Int}{j:Nat}{x:Int}(h:l[j]? =some x):lj (l.drop j)=if x=0 then lj (l.drop (j+1)) else x:=by
 obtain⟨A,rfl⟩:=au.1 h;rw[aud A];rfl
theorem lh{B L c:Nat}{l:List Int}(hl:l.length=L)(T:L<=1000)(w:World)(h:∀(j:Nat) (x:Int),l[j]? =some x->w.cell? ⟨B,j,none⟩=some (.int .i64 x)):
 Calls prog 219 #[.slice (some ⟨B,0,none⟩) L c] w λe w'=>e=.returned (.int .i64 (lj l))/\w'=w:=by
 have U:=aT hl;have Y:=aT h;clear hl h;go_enter func219,ntmps219;go_upto_region 3 with fail;go_loopg [8] (L+1) (λgg iv wr=>w=wr/\∃j:Nat,j<=L/\L-j<gg/\iv=.int .i64 (j:Int)/\Hid (lj (l.drop j)=lj l));case atStart=>exact⟨rfl,0,abc _,jO,rfl,(by show _=_;rfl)⟩
 case round=>
  obtain⟨rfl,j,hj,VP,rfl,J⟩:=hrel;have i0:=jZ j;by_cases I:j<L
  ·have C:(j:Int)<(L:Int):=by omega
   obtain⟨x,hx⟩:∃x,l[j]? =some x:=⟨_,aM (by rw[U.out];exact I)⟩;have y0:=Y j x hx;have hd:=sq hx;rw[J.out] at hd;have iw:=jW j;by_cases D:x=0
   ·subst D;rw[aG rfl] at hd;have A:=aT hd.symm;clear hd hx;go_wp2_with fail;go_roundg (L-j);case measure=>omega
    case rel=>exact⟨rfl,j+1,jO,jO,by go_num,A⟩
   ·rw[aN D] at hd;have Z:(x != 0)=true:=by simpa using D
    have A:=aT hd;clear hd hx;go_wp2_with fail;go_ret;exact⟨OL A.symm,rfl⟩
  ·obtain rfl:L=j:=by omega
   have C:¬(L:Int)<(L:Int):=jO;have hd:=J.out;rw[anc (by rw[U.out];exact aR _)] at hd;have A:=aT hd;clear hd;go_wp2_with fail;go_ret;exact⟨OL A,rfl⟩
theorem Ox(x y:Int):WL x y<0↔x<y:=by unfold WL;split<;>(try split)<;>omega
theorem Q3(x y:Int):WL x y=0↔x=y:=by unfold WL;split<;>(try split)<;>omega
def ltC(x y:Z5):Prop:=x.a<y.a\/(x.a=y.a/\(x.o<y.o\/(x.o=y.o/\(x.m<y.m\/(x.m=y.m/\x.v<y.v)))))
theorem Vk(x y:Z5):wR x y<0↔ltC x y:=by
 have a1:=Ox x.a y.a;have a0:=Q3 x.a y.a;have C:=Ox x.o y.o;have D:=Q3 x.o y.o;have m1:=Ox x.m y.m;have m0:=Q3 x.m y.m;have A:=Ox x.v y.v;have I:=Q3 x.v y.v;unfold wR ltC;simp only[lj];split
 ·split
  ·split;·split<;>omega
   ·omega
  ·omega
 ·omega
theorem at5:Go.Sort.SWO (λx y:Z5=>decide (wR x y<0)) where
 irrefl x:=by have:=Vk x x;unfold ltC at this;simp only[ase];omega
 trans x y z h1 h2:=by have e1:=Vk x y;have e2:=Vk y z;have e3:=Vk x z;unfold ltC at e1 e2 e3;simp only[aed] at*;omega
 ntrans x y z h1 h2:=by have e1:=Vk x y;have e2:=Vk y z;have e3:=Vk x z;unfold ltC at e1 e2 e3;simp only[ase] at*;omega
theorem D8{P:Program}{o:Oper}{a:Act}(w:World){K:Act->World->Prop}{Q:Exit->Act->World->Prop}(t:TypeId){e:TypeId}{ie:TypeInfo}{sz:Nat}(ho:o.op=.buildSlice t 0 #[])(hu:P.underlying t=some (.slice e))(A:P.info? e=some ie)(hs:ie.size=sz)
 (h:K (a.put o.dst (.slice (some ⟨w.heap.size,0,none⟩) 0 0)) (w.alloc (.cells #[] e))):o.wp P a w K Q:=by
 have hr:(Instr.buildSlice t 0 #[]).run P w=.ok (.slice (some ⟨w.heap.size,0,none⟩) 0 0) (w.alloc (.cells #[] e)):=by
  have hz:Array.range 0=#[]:=by simp[Array.range]
  simp[Instr.buildSlice,ajb hu,sizeOf,typeInfo,A,Instr.fill,newRow,hz]
 unfold Oper.wp execOp;simp only[ho,Sem.run_bind,List.map_toArray,apb,hr,asa];exact h
theorem D7(c:Z5)(hm:c.m<Yf)(hv:c.v<Yf)(w:World):Calls prog 144 #[.agg (cC c)] w (V8 (Zk c) w):=by
 generalize hS:Zk c=S;have I:=aT hS;clear hS;obtain⟨HP,D,Y⟩:=Xf c w 68;obtain⟨a,o,m,v⟩:=c;unfold cC at*;dsimp only at*;go_enter func144,ntmps144;go_upto_region 1 with fail;generalize (w.alloc (.cells #[.int .i64 a,.int .i64 o,.int .u64 m,.int .u64 v] 68)).alloc (.cells #[.int .i64 0,.int .i64 0,.int .u64 0,.int .u64 0] 68)=w1 at*;obtain⟨⟨p0,p1,p2,p3⟩,_,_,pf2,_⟩:=Z8 HP;obtain⟨R,hR⟩:=jX (w.heap.size+1);rw[hR] at D ⊢;have A:w.heap.size<R:=jO;clear hR;obtain⟨⟨r0,r1,r2,r3⟩,f0,f1,f2,f3⟩:=Z8 D;by_cases hb:U8-1<v
 ·have J:=aT hb;have hbz:(4294967295:Int)<(v:Int):=by unfold U8 at hb;omega
  clear hb;by_cases h2:o=2
  ·have h2z:((o:Int) == 2)=true:=by rw[ahd];omega
   have H2:=aT h2;clear h2;go_wp2_with fail;refine aag (Zv rfl (ZG D _ _ _ _) rfl) rfl ?_;exact⟨by rw[<-I.out];unfold Zk;rw[aG J.out,aG (.inl H2.out)];rfl,ZF Y (ace A) _ _ _ _⟩
  ·have h2z:((o:Int) == 2)=false:=by rw[ae];omega
   have H2:=aT h2;clear h2;by_cases h3:o=3
   ·have h3z:((o:Int) == 3)=true:=by rw[ahd];omega
    have H3:=aT h3;clear h3;go_wp2_with fail;refine aag (Zv rfl (ZG D _ _ _ _) rfl) rfl ?_;exact⟨by rw[<-I.out];unfold Zk;rw[aG J.out,aG (.inr H3.out)];rfl,ZF Y (ace A) _ _ _ _⟩
   ·have h3z:((o:Int) == 3)=false:=by rw[ae];omega
    have H3:=aT h3;clear h3;go_wp2_with fail;refine aag (Zv rfl (ZG D _ _ _ _) rfl) rfl ?_;exact⟨by rw[<-I.out];unfold Zk;rw[aG J.out,aN (λe=>e.elim H2.out H3.out)];rfl,ZF Y (ace A) _ _ _ _⟩
 ·have J:=aT hb;have hbz:¬(4294967295:Int)<(v:Int):=by unfold U8 at hb;omega
  clear hb;by_cases h7:o=7
  ·have h7z:((o:Int) != 7)=false:=by simp;omega
   have H7:=aT h7;clear h7;have hand:bits .and .u64 (m:Int) 4294967295=((m%U8:Nat):Int):=by rw[and_low32 _ jO (by unfold Yf at hm;omega)];unfold U8;omega
   by_cases Z:m%U8=0
   ·have lQ:(((m%U8:Nat):Int) == 0)=true:=by rw[Z];rfl
    have HE:Hid (S=.always):=by show S=_;rw[<-I.out];unfold Zk;rw[aN J.out,aN (λe=>e H7.out),aG Z]
    clear I Z;have U:=aT (HP.set 2 (.int .u64 ((m%U8:Nat):Int)));have C:=aT (D.other (show R≠w.heap.size from jO) 2 (.int .u64 ((m%U8:Nat):Int)));have T:=aT (Y.setCell (p:=⟨w.heap.size,2,none⟩) (aR _) (.int .u64 ((m%U8:Nat):Int)));generalize m%U8=ml at*;go_upto_region 8 with fail;generalize w1.setCell ⟨w.heap.size,2,none⟩ (.int .u64 ml)=w2 at*;obtain⟨⟨p0,p1,p2,p3⟩,_⟩:=Z8 U;obtain⟨⟨r0,r1,r2,r3⟩,f0,f1,f2,f3⟩:=Z8 C;go_wp2_with fail;refine aag (Zv rfl (ZG C _ _ _ _) rfl) rfl ?_;exact⟨by rw[HE.out];rfl,ZF T (ace A) _ _ _ _⟩
   ·have lQ:(((m%U8:Nat):Int) == 0)=false:=by rw[ae];omega
    have HE:Hid (S=.asks ⟨a,o,m%U8,v⟩):=by show S=_;rw[<-I.out];unfold Zk;rw[aN J.out,aN (λe=>e H7.out),aN Z]
    clear I Z;have U:=aT (HP.set 2 (.int .u64 ((m%U8:Nat):Int)));have C:=aT (D.other (show R≠w.heap.size from jO) 2 (.int .u64 ((m%U8:Nat):Int)));have T:=aT (Y.setCell (p:=⟨w.heap.size,2,none⟩) (aR _) (.int .u64 ((m%U8:Nat):Int)));generalize m%U8=ml at*;go_upto_region 8 with fail;generalize w1.setCell ⟨w.heap.size,2,none⟩ (.int .u64 ml)=w2 at*;obtain⟨⟨p0,p1,p2,p3⟩,_⟩:=Z8 U;obtain⟨⟨r0,r1,r2,r3⟩,f0,f1,f2,f3⟩:=Z8 C;go_wp2_with fail;refine aag (Zv rfl (ZG C _ _ _ _) rfl) rfl ?_;exact⟨by rw[HE.out];rfl,ZF T (ace A) _ _ _ _⟩
  ·have h7z:((o:Int) != 7)=true:=by simp;omega
   have H7:=aT h7;clear h7;go_wp2_with fail;refine aag (Zv rfl (ZG D _ _ _ _) rfl) rfl ?_;exact⟨by rw[<-I.out];unfold Zk;rw[aN J.out,aG H7.out];rfl,ZF Y (ace A) _ _ _ _⟩
end Go.Proofs.YtclgigmgbebhgaaGreatDoor
namespace Go.Proofs.YtclgigmgbebhgaaGreatDoor.Zh
open Tryz
open Go Go.Proofs Go.RowKit
def X8(k:Int):ByteArray:=if k=1 then⟨#[61,61]⟩ else if k=2 then⟨#[33,61]⟩ else if k=3 then⟨#[60]⟩ else if k=4 then⟨#[60,61]⟩ else if k=5 then⟨#[62]⟩ else if k=6 then⟨#[62,61]⟩ else if k=7 then⟨#[38]⟩ else⟨#[]⟩
def Gj:Array Value:=#[.string ⟨#[61,61]⟩,.func (.func 68) #[] #[],.string ⟨#[33,61]⟩,.func (.func 69) #[] #[],.string ⟨#[60]⟩,.func (.func 70) #[] #[],.string ⟨#[60,61]⟩,.func (.func 71) #[] #[],.string ⟨#[62]⟩,.func (.func 72) #[] #[],.string ⟨#[62,61]⟩,.func (.func 73) #[] #[],.string ⟨#[38]⟩,.func (.func 74) #[] #[]]
def Xr(a o m:Int):Bool:=decide (0<=a/\a<=5/\1<=o/\o<=7/\(o=7\/m=0))
theorem lg(w:World):Calls prog 33 #[] w λe w'=>e=.returned (.slice (some ⟨w.heap.size,0,none⟩) 7 7)/\w.alloc (.cells Gj 104)=w':=by
 go_enter func33,ntmps33;go_wp2;go_ret;exact⟨rfl,rfl⟩
theorem VT{a o m:Int}(h:¬(0<=a/\a<=5/\1<=o/\o<=7/\(o=7\/m=0))):Xr a o m=false:=aee h
theorem XQ(a o m v:Int)(w:World):Calls prog 32 #[.agg #[.int .i64 a,.int .i64 o,.int .u64 m,.int .u64 v]] w λe w'=>e=.returned (.bool (Xr a o m))/\Below w.heap.size w w':=by
 have D:=Z7.new w 68 #[.int .i64 a,.int .i64 o,.int .u64 m,.int .u64 v];have c0:=D.cell 0;have c1:=D.cell 1;have U:=D.cell 2;simp only[ak,aL,aF] at c0 c1 U;have A:=aT ((aH _ w).alloc (aR _) (.cells #[.int .i64 a,.int .i64 o,.int .u64 m,.int .u64 v] 68));clear D;by_cases a0:0<=a
 case neg=>
  have hr:=VT (a:=a) (o:=o) (m:=m) (λh=>jO);rw[hr];clear hr;go_enter func32,ntmps32;go_wp2;go_ret;exact⟨rfl,A⟩
 by_cases I:a<=5
 case neg=>
  have hr:=VT (a:=a) (o:=o) (m:=m) (λh=>jO);rw[hr];clear hr;go_enter func32,ntmps32;go_wp2;go_ret;exact⟨rfl,A⟩
 by_cases T:1<=o
 case neg=>
  have hr:=VT (a:=a) (o:=o) (m:=m) (λh=>jO);rw[hr];clear hr;go_enter func32,ntmps32;go_wp2;go_ret;exact⟨rfl,A⟩
 by_cases J:o<=7
 case neg=>
  have hr:=VT (a:=a) (o:=o) (m:=m) (λh=>jO);rw[hr];clear hr;go_enter func32,ntmps32;go_wp2;go_ret;exact⟨rfl,A⟩
 by_cases C:o=7;·subst C;have hr:Xr a 7 m=true:=adb ⟨a0,I,jD,jD,.inl rfl⟩;rw[hr];clear hr;go_enter func32,ntmps32;go_wp2;go_ret;exact⟨rfl,A⟩
 ·have q7:(o == 7)=false:=by simpa using C
  by_cases m0:m=0;·subst m0;have hr:Xr a o 0=true:=adb ⟨a0,I,T,J,.inr rfl⟩;rw[hr];clear hr C;go_enter func32,ntmps32;go_wp2;go_ret;exact⟨rfl,A⟩
  ·have Y:(m == 0)=false:=by simpa using m0
   have hr:=VT (a:=a) (o:=o) (m:=m) (λh=>jO);rw[hr];clear hr C m0;go_enter func32,ntmps32;go_wp2;go_ret;exact⟨rfl,A⟩
end Go.Proofs.YtclgigmgbebhgaaGreatDoor.Zh
