/- TopAsks: part 6: TopParts TopN1 TopN2 TopBuildZ TopRes1 Cond. -/
import Derived.IntWalk
import Derived.BigRegion
import Derived.Laws.Bits64b
import Derived.Sort.Statements
import Derived.Sort.Grow
import Derived.Laws.MathBits
import Derived.WalkSpells
import Derived.Deep.QuietTactic
import Derived.Outline
import Derived.Test.YtclgigmgbebhgaaGreatDoorA05
set_option linter.unusedVariables false
set_option linter.unusedSimpArgs false
set_option maxRecDepth 100000
set_option maxHeartbeats 16000000
namespace Go.Proofs.YtclgigmgbebhgaaGreatDoor
open Tryz
open Go Go.Proofs Go.RowKit Go.Maps Go.WideMaps Go.ChangeMaps
variable {pc:Array Value} {LO M Bm N ow a mB pB aB oB R t o:Nat} {vs c2 c3:Value} {W w:World}
open Go.Sort (SWO PermIn SortedIn)
open Go.Shelf
abbrev Cw:Nat:=219
abbrev Xy:Nat:=78
instance:Inhabited ZO:=⟨.subs []⟩
abbrev VV:=Fin 4294967296×(Nat×Array Value)×ZO
def RR(x:VV):List Value:=[.int .u32 x.1.val,.func (.func x.2.1.1) #[] x.2.1.2]
theorem dG:(prog.info? Cw).map (λi=>(i.zero,i.size,i.bytes))=some (some (.agg #[.int .u32 0,.nilFunc]),2,16):=jK
def ghost(x:VV):Nat×ZO:=(x.1.val,x.2.2)
theorem lV(x y:VV):ltOf (λx y:VV=>(x.1.val:Int)-(y.1.val:Int)) x y=decide (x.1.val<y.1.val):=by
 unfold ltOf;by_cases h:x.1.val<y.1.val;·simp[h];omega
 ·simp[h];omega
theorem ae7:SWO (ltOf λx y:VV=>(x.1.val:Int)-(y.1.val:Int)) where
 irrefl x:=by rw[lV];simp
 trans x y z h1 h2:=by rw[lV] at*;simp at*;omega
 ntrans x y z h1 h2:=by rw[lV] at*;simp at*;omega
theorem ae8(x y:VV)(W:World):Calls prog 173 #[.agg #[.int .u32 x.1.val,.func (.func x.2.1.1) #[] x.2.1.2],.agg #[.int .u32 y.1.val,.func (.func y.2.1.1) #[] y.2.1.2]] W λe w'=>e=.returned (.int .i64 ((x.1.val:Int)-(y.1.val:Int)))/\∃q A,w'=Go.Sort.grow (W.drewN q) A:=by
 obtain⟨⟨x,hx⟩,⟨Z,T⟩,J⟩:=x;obtain⟨⟨y,hy⟩,⟨I,U⟩,ty⟩:=y;dsimp only;have D:IntKind.i64.wrap (x:Int)=x:=aJ _ jO;have C:IntKind.i64.wrap (y:Int)=y:=aJ _ jO;have Y:IntKind.i64.wrap ((x:Int)-(y:Int))=(x:Int)-(y:Int):=aJ _ jO;go_enter func173,ntmps173;go_wp2_with fail;go_ret;exact⟨rfl,0,_,by rw[Go.Sort.alloc_eq_grow,Go.Sort.alloc_eq_grow,Go.Sort.grow_grow];rfl⟩
abbrev OG:Nat:=119
structure T3(W:World)(M ow a mB pB aB oB:Nat)(pc:Array Value):Prop where
 hm:Z8 W mB 132 #[.pointer (some ⟨M,0,none⟩)]
 hp:Z8 W pB Xy pc
 ha:Z8 W aB 3 #[.int .i64 a]
 ho:Z8 W oB 3 #[.int .i64 ow]
def Does(N a mB pB aB oB:Nat)(pc:Array Value)(W:World)(x:VV):Prop:=
 match x.2.2 with
 | .rules wide rs=>wide=decide (a≠2)/\Pf rs/\rs.length<=1000000/\(∀r∈rs,r.1.length<=1000000)/\∃eB num vr,x.2.1=(167,#[.pointer (some ⟨mB,0,none⟩),.pointer (some ⟨eB,0,none⟩),.pointer (some ⟨aB,0,none⟩),.pointer (some ⟨oB,0,none⟩)])/\Z8 W eB OG #[num,vr]/\UC N W vr rs
 | .subs l=>l.length<=4000/\l.Pairwise (λa b=>a.1<b.1)/\(∀p∈l,p.2<4294967296)/\∃vs,VI N W vs l/\
    ((x.2.1=(169,#[.pointer (some ⟨mB,0,none⟩),.pointer (some ⟨pB,0,none⟩),.pointer (some ⟨oB,0,none⟩)])/\pc[7]? =some vs)\/(x.2.1=(171,#[.pointer (some ⟨mB,0,none⟩),.pointer (some ⟨pB,0,none⟩),.pointer (some ⟨oB,0,none⟩)])/\pc[8]? =some vs))
theorem Does.mono{N a mB pB aB oB K:Nat}{pc:Array Value}{W W':World}(hk:∀B cs,Z8 W B OG cs->Z8 W' B OG cs)(hb:Below K W W')(hN:N<=K){x:VV}(h:Does N a mB pB aB oB pc W x):Does N a mB pB aB oB pc W' x:=by
 obtain⟨n,f,tp⟩:=x;cases tp with
 |rules wide rs=>
  obtain⟨C,A,I,J,U,num,Z,D,Y,T⟩:=h;exact⟨C,A,I,J,U,num,Z,D,hk _ _ Y,T.below hb hN⟩
 |subs l=>
  obtain⟨C,A,I,vs,J,D⟩:=h;exact⟨C,A,I,vs,J.below hb hN,D⟩
theorem Does.fn{N a mB pB aB oB:Nat}{pc:Array Value}{W:World}{x:VV}(h:Does N a mB pB aB oB pc W x):∃cs,x.2.1=(167,cs)\/x.2.1=(169,cs)\/x.2.1=(171,cs):=by
 obtain⟨n,f,C⟩:=x;cases C with
 |rules wide rs=>
  obtain⟨_,_,_,_,D,num,I,A,_⟩:=h;exact⟨_,.inl A⟩
 |subs l=>
  obtain⟨_,_,_,vs,_,A|A⟩:=h;·exact⟨_,.inr (.inl A.1)⟩
  ·exact⟨_,.inr (.inr A.1)⟩
def UR(LO M Bm ow:Nat)(g:G)(w:World)(tp:ZO):Ending->World->Prop:=λe w'=>e=.returned (.tuple #[])/\∃v',Zl LO M Bm w' v' (VW ow tp g)/\Yh LO M Bm w w'/\Wl (VW ow tp g)
theorem Cv{eB:Nat} {v num vr:Value}{g:G}(rs:List Z3)(w:World)(hc:Pf rs)(h1:rs.length<=1000000)(h2:∀r∈rs,r.1.length<=1000000)(he:Z8 w eB OG #[num,vr])(hm:UC N w vr rs)
 (hb:T3 w M ow a mB pB aB oB pc) (h:Zl LO M Bm w v g) (hg:Wl g) (hG:GB (XO (decide (a≠2)) ow rs g)) (hN:N<=LO) (J:LO<=w.heap.size):
 Calls prog 167 #[.pointer (some ⟨mB,0,none⟩),.pointer (some ⟨eB,0,none⟩),.pointer (some ⟨aB,0,none⟩),.pointer (some ⟨oB,0,none⟩)] w (UR LO M Bm ow g w (.rules (decide (a≠2)) rs)):=by
 have c1:=cell1 hb.hm;have c2:=cell1 hb.ha;have c3:=cell1 hb.ho;have c4:w.cell? ⟨eB,1,none⟩=some vr:=by simpa using he.cell 1
 have I:=aT (xU rs (decide (a≠2)) ow hc h1 h2 w h hg hG hm hN J);obtain⟨ua,uc,rfl,T⟩:=hm;unfold UR;clear T he hb h hg hG hc h2;by_cases ha:a=2;·subst ha;go_enter func167,ntmps167;go_wp2_with fail;refine I.mono ?_;rintro e w' ⟨rfl,v',C,D,A⟩;have Y:=aT C;have Z:=aT D;have U:=aT A;clear C D A I;go_wp2_with fail;go_end0;exact⟨rfl,v',Y,Z,U⟩
 ·have hz:((a:Int) == 2)=false:=by rw[af];omega
  have hz2:((a:Int) != 2)=true:=by rw[azf];omega
  have hd:decide (a≠2)=true:=by simpa using ha
  rw[hd] at I ⊢;clear hd;go_enter func167,ntmps167;go_wp2_with fail;refine I.mono ?_;rintro e w' ⟨rfl,v',C,D,A⟩;have Y:=aT C;have Z:=aT D;have U:=aT A;clear C D A I;go_wp2_with fail;go_end0;exact⟨rfl,v',Y,Z,U⟩
theorem Cu{v:Value}{g:G}(l:List (Nat×Nat))(w:World)(h1:l.length<=4000)(I:l.Pairwise (λa b=>a.1<b.1))(h3:∀p∈l,p.2<4294967296)(hm:VI N w vs l)(hp:pc[7]? =some vs)
 (hb:T3 w M ow a mB pB aB oB pc) (h:Zl LO M Bm w v g) (Y:Wl g) (Z:GB (WQ ow l g)) (hN:N<=LO) (A:LO<=w.heap.size):
 Calls prog 169 #[.pointer (some ⟨mB,0,none⟩),.pointer (some ⟨pB,0,none⟩),.pointer (some ⟨oB,0,none⟩)] w (UR LO M Bm ow g w (.subs l)):=by
 have c1:=cell1 hb.hm;have c3:=cell1 hb.ho;have c4:w.cell? ⟨pB,7,none⟩=some vs:=(hb.hp.cell 7).trans hp;have U:=aT (ED (ow:=ow) l h1 I h3 w h Y Z hm hN A);obtain⟨ua,uc,rfl,C⟩:=hm;unfold UR;clear C hb h Y Z hp I h3;go_enter func169,ntmps169;go_wp2_with fail;refine U.mono ?_;rintro e w' ⟨rfl,v',J,T,D⟩;have HM:=aT J;have HF:=aT T;have HO:=aT D;clear J T D U;go_wp2_with fail;go_end0;exact⟨rfl,v',HM,HF,HO⟩
theorem Ct{v:Value}{g:G}(l:List (Nat×Nat))(w:World)(h1:l.length<=4000)(I:l.Pairwise (λa b=>a.1<b.1))(h3:∀p∈l,p.2<4294967296)(hm:VI N w vs l)(hp:pc[8]? =some vs)
 (hb:T3 w M ow a mB pB aB oB pc) (h:Zl LO M Bm w v g) (Y:Wl g) (Z:GB (WQ ow l g)) (hN:N<=LO) (A:LO<=w.heap.size):
 Calls prog 171 #[.pointer (some ⟨mB,0,none⟩),.pointer (some ⟨pB,0,none⟩),.pointer (some ⟨oB,0,none⟩)] w (UR LO M Bm ow g w (.subs l)):=by
 have c1:=cell1 hb.hm;have c3:=cell1 hb.ho;have c4:w.cell? ⟨pB,8,none⟩=some vs:=(hb.hp.cell 8).trans hp;have U:=aT (ED (ow:=ow) l h1 I h3 w h Y Z hm hN A);obtain⟨ua,uc,rfl,C⟩:=hm;unfold UR;clear C hb h Y Z hp I h3;go_enter func171,ntmps171;go_wp2_with fail;refine U.mono ?_;rintro e w' ⟨rfl,v',J,T,D⟩;have HM:=aT J;have HF:=aT T;have HO:=aT D;clear J T D U;go_wp2_with fail;go_end0;exact⟨rfl,v',HM,HF,HO⟩
theorem td{LO M Bm N ow a mB pB aB oB:Nat}{pc:Array Value}{v:Value}{g:G}(x:VV)(w:World)(hd:Does N a mB pB aB oB pc w x)(hb:T3 w M ow a mB pB aB oB pc)(h:Zl LO M Bm w v g)(U:Wl g)(Y:GB (VW ow x.2.2 g))(hN:N<=LO)(A:LO<=w.heap.size):
 Calls prog x.2.1.1 x.2.1.2 w (UR LO M Bm ow g w x.2.2):=by
 obtain⟨n,f,tp⟩:=x;cases tp with
 |rules wide rs=>
  obtain⟨rfl,D,I,J,eB,num,vr,rfl,C,h7⟩:=hd;exact Cv rs w D I J C h7 hb h U Y hN A
 |subs l=>
  obtain⟨Z,D,I,vs,J,⟨T,C⟩|⟨T,C⟩⟩:=hd;·obtain rfl:f=_:=T;exact Cu l w Z D I J C hb h U Y hN A
  ·obtain rfl:f=_:=T;exact Ct l w Z D I J C hb h U Y hN A
structure Ya where
 d:Nat
 x:Bool
 (e0 e1 e2 e3 e4 s0 s1:Option Addr×Nat×Nat)
def VO(t:Option Addr×Nat×Nat):Value:=.slice t.1 t.2.1 t.2.2
def ZA(q:Ya):Array Value:=#[.int .u32 q.d,.bool q.x,VO q.e0,VO q.e1,VO q.e2,VO q.e3,VO q.e4,VO q.s0,VO q.s1]
def Ya.e(q:Ya)(a:Nat):Option Addr×Nat×Nat:=if a=0 then q.e0 else if a=1 then q.e1 else if a=2 then q.e2 else if a=3 then q.e3 else q.e4
theorem lU(q:Ya) (ha:a<5):(ZA q)[2+a]? =some (VO (q.e a)):=by
 rcases (show a=0\/a=1\/a=2\/a=3\/a=4 from jO) with rfl|rfl|rfl|rfl|rfl<;>rfl
def dF(e:Nat×List Z3):Prop:=e.1<4294967296/\Pf e.2/\e.2.length<=1000000/\∀r∈e.2,r.1.length<=1000000
def xy(l:List (Nat×Nat)):Prop:=l.length<=4000/\l.Pairwise (λa b=>a.1<b.1)/\∀p∈l,p.2<4294967296
def VD(a:Nat)(e:Nat×List Z3):Nat×ZO:=(e.1,.rules (decide (a≠2)) e.2)
def Z1(a:Nat)(es:List (Nat×List Z3))(s0 s1:List (Nat×Nat)):List (Nat×ZO):=es.map (VD a)++(if a=2 then [(102,.subs s0),(117,.subs s1)] else [])
structure WH(N LO a mB pB aB oB:Nat)(pc:Array Value)(W:World)(v:Value)(n:Nat)(ds:List VV)(src:List (Nat×ZO)):Prop where
 own:W.ownsRow LO Cw 2 v n (ds.flatMap RR)
 len:ds.length=n
 does:∀x∈ds,Does N a mB pB aB oB pc W x
 src:ds.map ghost=src
theorem T3.mono{W':World}(h:T3 W M ow a mB pB aB oB pc)(hk:∀B t cs,t≠Cw->Z8 W B t cs->Z8 W' B t cs):T3 W' M ow a mB pB aB oB pc:=
 ⟨hk _ _ _ jD h.hm,hk _ _ _ jD h.hp,hk _ _ _ jD h.ha,hk _ _ _ jD h.ho⟩
theorem K2{n:Nat}{v:Value}{ds:List VV}{src:List (Nat×ZO)}(hp:WH N LO a mB pB aB oB pc W v n ds src)(hx:T3 W M ow a mB pB aB oB pc)(hb:RowKit.Below LO w W)(hN:N<=LO)(hn:n<=10000):
 Calls prog 172 #[v,.func (.func 173) #[] #[]] W λe w'=>e=.returned (.tuple #[])/\∃C A,WH N LO a mB pB aB oB pc w' v n C A/\T3 w' M ow a mB pB aB oB pc/\RowKit.Below LO w w'/\A.Perm src/\A.Pairwise (λx y=>x.1<=y.1):=by
 have eg:∀args w,(callFunc 173 args).run prog w=.ok (.enter 173 args) w:=enters_of func173 jK rfl;have h:=OH Tryz.tj 2 isAgg219 sizeOf219 RR (λ_=>rfl) (λx v hv=>by simp[RR] at hv;rcases hv with rfl|rfl<;>rfl) (λx y=>(x.1.val:Int)-(y.1.val:Int)) ae7 173 #[] eg (λx y W=>ae8 x y W) W hp.len hp.own jO;refine h.mono ?_;rintro e w' ⟨rfl,C,D,Z,T,J,_,Y⟩;have I:∀B t cs,t≠Cw->Z8 W B t cs->Z8 w' B t cs:=λB t cs ht h=>Y B _ h (YU hp.own h (ana ht))
 refine⟨rfl,C,C.map ghost,⟨T,D.length_eq.trans hp.len,λx hx=>(hp.does x (D.mem_iff.1 hx)).mono (λB cs h=>I B _ cs jD h) J hN,rfl⟩,hx.mono I,hb.trans J,?_,?_⟩;·rw[<-hp.src];exact D.map ghost
 ·rw[afa];refine Z.imp (λ{x y} U=> ?_);rw[lV] at U;show x.1.val<=y.1.val;simpa using U
theorem xx (q:Ya)(es:List (Nat×List Z3))(s0 s1:List (Nat×Nat))(ha:a<5)(w:World)(he:WK N w (VO (q.e a)) es)(hec:∀e∈es,dF e)(uw:es.length<=4000)(hs0:VI N w (VO q.s0) s0)(hs1:VI N w (VO q.s1) s1)(hc0:xy s0)(hc1:xy s1)(hN:N<=w.heap.size):
 Calls prog 104 #[.pointer (some ⟨M,0,none⟩),.agg (ZA q),.int .i64 a,.int .i64 ow] w λe w'=>∃v mB pB aB oB ds src,e=.returned v/\Below w.heap.size w w'/\T3 w' M ow a mB pB aB oB (ZA q)/\WH N w.heap.size a mB pB aB oB (ZA q) w' v ds.length ds src/\src.Perm (Z1 a es s0 s1)/\src.Pairwise (λx y=>x.1<=y.1):=by
 obtain⟨A1,hA1⟩:∃A:Obj,A=.cells #[.pointer (some ⟨M,0,none⟩)] 132:=⟨_,rfl⟩;obtain⟨A2,zv⟩:∃A:Obj,A=.cells (ZA q) Xy:=⟨_,rfl⟩;obtain⟨A3,hA3⟩:∃A:Obj,A=.cells #[.int .i64 a] 3:=⟨_,rfl⟩;obtain⟨A4,hA4⟩:∃A:Obj,A=.cells #[.int .i64 ow] 3:=⟨_,rfl⟩;have b4:Below w.heap.size w ((((w.alloc A1).alloc A2).alloc A3).alloc A4):=(((((aG w.heap.size w).alloc (aP _) A1).alloc (by rw[ai];omega) A2).alloc (by rw[ai,ai];omega) A3).alloc (by rw[ai,ai,ai];omega) A4);have HBX:Hid (T3 ((((w.alloc A1).alloc A2).alloc A3).alloc A4) M ow a w.heap.size (w.heap.size+1) (w.heap.size+1+1) (w.heap.size+1+1+1) (ZA q)):=by
  subst hA1 zv hA3 hA4;refine⟨(((Z8.new w _ _).alloc _).alloc _).alloc _,?_,?_,?_⟩;·have:=((Z8.new (w.alloc (.cells #[.pointer (some ⟨M,0,none⟩)] 132)) Xy (ZA q)).alloc (.cells #[.int .i64 a] 3)).alloc (.cells #[.int .i64 ow] 3);rwa [ai] at this
  ·have:=(Z8.new ((w.alloc (.cells #[.pointer (some ⟨M,0,none⟩)] 132)).alloc (.cells (ZA q) Xy)) 3 #[.int .i64 a]).alloc (.cells #[.int .i64 ow] 3);rwa [ai,ai] at this
  ·have:=(Z8.new (((w.alloc (.cells #[.pointer (some ⟨M,0,none⟩)] 132)).alloc (.cells (ZA q) Xy)).alloc (.cells #[.int .i64 a] 3)) 3 #[.int .i64 ow]);rwa [ai,ai,ai] at this
 have HE:=aT he;have HEC:=aT hec;have Um:=aT hs0;have GQ:=aT hs1;have FX:=aT hc0;have zz:=aT hc1;have NC:=aT b4;have ir:∀(fn:Fn) (first cap:Array Value) (w:World),(Instr.makeFunc fn first cap).run prog w=.ok (.func fn first cap) w:=λ_ _ _ _=>rfl
 obtain⟨L,hL⟩:=jX es.length;have ae9:(q.e a).2.1=L:=by obtain⟨a1,c1,e1,_⟩:=he;unfold VO at e1;injection e1 with _ e2 _;rw[<-hL];exact e2
 rw[hL] at uw;have HL:=aT hL;have HEL:=aT ae9;subst hA1 zv hA3 hA4;clear he hec hs0 hs1 hc0 hc1 b4 hL ae9;unfold ZA VO at*;go_enter func104,ntmps104;go_upto_region 2 with fail;generalize (((w.alloc (.cells #[.pointer (some ⟨M,0,none⟩)] 132)).alloc (.cells #[.int .u32 q.d,.bool q.x,.slice q.e0.1 q.e0.2.1 q.e0.2.2,.slice q.e1.1 q.e1.2.1 q.e1.2.2,.slice q.e2.1 q.e2.2.1 q.e2.2.2,.slice q.e3.1 q.e3.2.1 q.e3.2.2,.slice q.e4.1 q.e4.2.1 q.e4.2.2,.slice q.s0.1 q.s0.2.1 q.s0.2.2,.slice q.s1.1 q.s1.2.1 q.s1.2.2] Xy)).alloc (.cells #[.int .i64 a] 3)).alloc (.cells #[.int .i64 ow] 3)=w4 at*;obtain⟨mB,hmB⟩:∃x,w.heap.size=x:=⟨_,rfl⟩;obtain⟨pB,hpB⟩:∃x,w.heap.size+1=x:=⟨_,rfl⟩;obtain⟨aB,haB⟩:∃x,w.heap.size+1+1=x:=⟨_,rfl⟩;obtain⟨oB,hoB⟩:∃x,w.heap.size+1+1+1=x:=⟨_,rfl⟩;rw[hoB,haB,hpB,hmB] at HBX;rw[hoB,haB,hpB,hmB];have HLO:Hid (w.heap.size=mB):=hmB;clear hmB hpB haB hoB;have ca:=cell1 HBX.ha;have cp:w4.cell? ⟨pB,2+a,none⟩=some (.slice (q.e a).1 L (q.e a).2.2):=by rw[<-HEL.out];exact(HBX.hp.cell (2+a)).trans (lU q ha)
 obtain⟨iP,hi,hz0,hz1,hz2⟩:=ZQ dG;have HE2:Hid (WK N w (.slice (q.e a).1 L (q.e a).2.2) es):=by rw[<-HEL.out];exact HE
 clear HE HEL;generalize (q.e a).1=ea at*;generalize (q.e a).2.2=ec at*;have az0:=jZ a;have az1:(a:Int)<5:=jO;go_upto_region 3 with fail;go_loopg [9,17] (L+1) (λgg vo iv wr=>∃(i:Nat) (ds:List VV),i<=L/\L-i<gg/\iv=.int .i64 (i:Int)/\Hid (Below w.heap.size w wr)/\Hid (T3 wr M ow a mB pB aB oB (ZA q))/\Hid (WH N w.heap.size a mB pB aB oB (ZA q) wr vo i ds ((es.take i).map (VD a))));case atStart=>exact⟨0,[],abb _,jO,rfl,NC,HBX,⟨Yg _ _ _ _,rfl,λx hx=>(by cases hx),rfl⟩⟩
 case round=>
  obtain⟨i,ds,tM,VM,rfl,HB,dE,T⟩:=hrel;clear NC HBX ca cp;have i0:=jZ i;by_cases hlt:i<L
  ·have Zc:(i:Int)<(L:Int):=by omega
   obtain⟨en,hen⟩:∃en,es[i]? =some en:=⟨_,aM (by rw[HL.out];exact hlt)⟩;obtain⟨a2,c2,e2,hrow⟩:=HE2.out;injection e2 with e3 e6 e4;clear e6;subst e3 e4;obtain⟨gb,off,u,rfl,Va,c0,c1,hru⟩:=hrow i en hen;have y0:=ZZ HB hN Va c0;have y1:=ZZ HB hN Va c1;have Z:=hru.below HB hN;obtain⟨dD,dC,hrl,dB⟩:=HEC en (ag hen);obtain⟨num,rs⟩:=en;dsimp only at dD dC hrl dB y0 y1 hru Z;have ap2:=Z;obtain⟨ra,rc,rfl,hzz⟩:=ap2;clear hzz;have HEN:=aT hen;have HRU:=aT Z;have HRC:=aT (And.intro dC dB);have hbl:=HB.size;have LN:=aT (Z8.new wr OG #[.int .u32 num,.slice ra rs.length rc]);have QM:=aT (HB.alloc hbl (.cells #[.int .u32 num,.slice ra rs.length rc] OG));have GP:=aT (dE.mono (λB t cs _ h=>Z8.alloc h (.cells #[.int .u32 num,.slice ra rs.length rc] OG)));have J:Hid (WH N w.heap.size a mB pB aB oB (ZA q) (wr.alloc (.cells #[.int .u32 num,.slice ra rs.length rc] OG)) u9 i ds ((es.take i).map (VD a))):=⟨T.own.alloc _,T.len,λx hx=>(T.does x hx).mono (λB cs h=>Z8.alloc h _) ((aG N wr).alloc (aO hN hbl) _) (aP _),T.src⟩;have s6:=aT (UC.below ((aG N wr).alloc (aO hN hbl) (.cells #[.int .u32 num,.slice ra rs.length rc] OG)) (aP _) Z);clear hrow c0 c1 hru Z hen dC dB HB dE T HRU;obtain⟨va,vc,rfl⟩:=ZK J.own;go_upto_region 5 with fail;clear y0 y1;generalize wr.alloc (.cells #[.int .u32 num,.slice ra rs.length rc] OG)=wa at*;generalize wr.heap.size=eB at*;have z0:wa.cell? ⟨eB,0,none⟩=some (.int .u32 num):=by simpa using LN.out.cell 0
   have dA:=QM.size;have HX:Hid (((ds++[(⟨num,dD⟩,(167,#[.pointer (some ⟨mB,0,none⟩),.pointer (some ⟨eB,0,none⟩),.pointer (some ⟨aB,0,none⟩),.pointer (some ⟨oB,0,none⟩)]),ZO.rules (decide (a≠2)) rs)]:List VV)).flatMap RR=ds.flatMap RR++[.int .u32 num,.func (.func 167) #[] #[.pointer (some ⟨mB,0,none⟩),.pointer (some ⟨eB,0,none⟩),.pointer (some ⟨aB,0,none⟩),.pointer (some ⟨oB,0,none⟩)]]):=by show _=_;rw[aca];rfl
   go_wp2_with (first|(refine Great.wpList_buildSliceTo rfl 216 Cw 1 _ rfl _ rfl _ rfl underlying216 #[.int .u32 num,.func (.func 167) #[] #[.pointer (some ⟨mB,0,none⟩),.pointer (some ⟨eB,0,none⟩),.pointer (some ⟨aB,0,none⟩),.pointer (some ⟨oB,0,none⟩)]] jK ?_)|(at_builtin;refine aea _ rfl _ _ 216 rfl w.heap.size Cw iP (.agg #[.int .u32 0,.nilFunc]) 2 16 underlying216 hi hz0 hz1 hz2 rfl jD _ i _ rfl (J.own.alloc _) ⟨wa.heap.size,0,none⟩ 1 1 [.int .u32 num,.func (.func 167) #[] #[.pointer (some ⟨mB,0,none⟩),.pointer (some ⟨eB,0,none⟩),.pointer (some ⟨aB,0,none⟩),.pointer (some ⟨oB,0,none⟩)]] rfl ?c1 ?c2 ?c3 ?c4 ?c5 ?c6 ?_;(case c1=>rfl);(case c2=>exact Y1 rfl);(case c3=>intro u hu;simp only[abf,akf,auf] at hu;rcases hu with rfl|rfl<;>rfl);(case c4=>unfold maxLen;omega);(case c5=>omega);(case c6=>simp;omega);intro v' w6 C I _;obtain⟨sa,sc,rfl⟩:=ZK C;have HW:=aT C;have D:=aT (Zi (aeb wa _ _) I);clear C I))
   have CT:=aT (QM.grown D dA (λr e=>(J.own.lt r e).1));have lT:=aT (GP.mono (λB t cs ht h=>Zg J.own D h (ana ht)));have dz:Below N wa w6:=(aG N wa).grown D (aO hN dA) (λr e=>aO hN (J.own.lt r e).1);have zo:Hid (WH N w.heap.size a mB pB aB oB (ZA q) w6 (.slice sa (i+1) sc) (i+1) (ds++[(⟨num,dD⟩,(167,#[.pointer (some ⟨mB,0,none⟩),.pointer (some ⟨eB,0,none⟩),.pointer (some ⟨aB,0,none⟩),.pointer (some ⟨oB,0,none⟩)]),ZO.rules (decide (a≠2)) rs)]) ((es.take (i+1)).map (VD a))):=by
    refine⟨by rw[HX.out];exact HW,by rw[ay,J.out.len];rfl,λx hx=> ?_,?_⟩
    ·rcases abe.1 hx with hx|hx;·exact(J.does x hx).mono (λB cs h=>Zg J.own D h jD) dz (aP _)
     ·rw[aaa.1 hx];exact⟨rfl,HRC.1,hrl,HRC.2,eB,_,_,rfl,Zg J.own D LN jD,s6.below dz (aP _)⟩
    ·rw[adb,J.out.src,afb,HEN.out,adb];rfl
   have iw:=jW i;clear z0 dz HW D HX LN QM GP J s6;go_wp2_with fail;go_roundg (L-i);case measure=>omega
   case rel=>exact⟨i+1,_,jO,jO,by go_num,CT,lT,zo⟩
  ·obtain rfl:L=i:=by omega
   have Zc:¬(L:Int)<(L:Int):=jO;rw[abd (by rw[HL.out];exact aP _)] at T;have ca:=cell1 dE.ha;obtain⟨va,vc,rfl⟩:=ZK T.own;by_cases ha2:a=2
   ·have cz:((a:Int) == 2)=true:=by rw[ahc];omega
    have hbl:=HB.size;have HX:Hid ((ds++[(⟨102,jD⟩,(169,#[.pointer (some ⟨mB,0,none⟩),.pointer (some ⟨pB,0,none⟩),.pointer (some ⟨oB,0,none⟩)]),ZO.subs s0),(⟨117,jD⟩,(171,#[.pointer (some ⟨mB,0,none⟩),.pointer (some ⟨pB,0,none⟩),.pointer (some ⟨oB,0,none⟩)]),ZO.subs s1)]:List VV).flatMap RR=ds.flatMap RR++[.int .u32 102,.func (.func 169) #[] #[.pointer (some ⟨mB,0,none⟩),.pointer (some ⟨pB,0,none⟩),.pointer (some ⟨oB,0,none⟩)],.int .u32 117,.func (.func 171) #[] #[.pointer (some ⟨mB,0,none⟩),.pointer (some ⟨pB,0,none⟩),.pointer (some ⟨oB,0,none⟩)]]):=by show _=_;rw[aca];rfl
    go_wp2_with (first|(refine Great.wpList_buildSliceTo rfl 216 Cw 2 _ rfl _ rfl _ rfl underlying216 #[.int .u32 102,.func (.func 169) #[] #[.pointer (some ⟨mB,0,none⟩),.pointer (some ⟨pB,0,none⟩),.pointer (some ⟨oB,0,none⟩)],.int .u32 117,.func (.func 171) #[] #[.pointer (some ⟨mB,0,none⟩),.pointer (some ⟨pB,0,none⟩),.pointer (some ⟨oB,0,none⟩)]] jK ?_)|(at_builtin;refine aea _ rfl _ _ 216 rfl w.heap.size Cw iP (.agg #[.int .u32 0,.nilFunc]) 2 16 underlying216 hi hz0 hz1 hz2 rfl jD _ L _ rfl (T.own.alloc _) ⟨wr.heap.size,0,none⟩ 2 2 [.int .u32 102,.func (.func 169) #[] #[.pointer (some ⟨mB,0,none⟩),.pointer (some ⟨pB,0,none⟩),.pointer (some ⟨oB,0,none⟩)],.int .u32 117,.func (.func 171) #[] #[.pointer (some ⟨mB,0,none⟩),.pointer (some ⟨pB,0,none⟩),.pointer (some ⟨oB,0,none⟩)]] rfl ?c1 ?c2 ?c3 ?c4 ?c5 ?c6 ?_;(case c1=>rfl);(case c2=>exact Y1 rfl);(case c3=>intro u hu;simp only[abf,akf,auf] at hu;rcases hu with rfl|rfl|rfl|rfl<;>rfl);(case c4=>unfold maxLen;omega);(case c5=>omega);(case c6=>simp;omega);intro v' w6 C I _;obtain⟨sa,sc,rfl⟩:=ZK C;have HW:=aT C;have D:=aT (Zi (aeb wr _ _) I);clear C I)|(go_at_call 172;fail))
    have CT:=aT (HB.grown D hbl (λr e=>(T.own.lt r e).1));have lT:=aT (dE.mono (λB t cs ht h=>Zg T.own D h (ana ht)));have dz:Below N wr w6:=(aG N wr).grown D (aO hN hbl) (λr e=>aO hN (T.own.lt r e).1);have zo:Hid (WH N w.heap.size a mB pB aB oB (ZA q) w6 (.slice sa (L+2) sc) (L+2) (ds++[(⟨102,jD⟩,(169,#[.pointer (some ⟨mB,0,none⟩),.pointer (some ⟨pB,0,none⟩),.pointer (some ⟨oB,0,none⟩)]),ZO.subs s0),(⟨117,jD⟩,(171,#[.pointer (some ⟨mB,0,none⟩),.pointer (some ⟨pB,0,none⟩),.pointer (some ⟨oB,0,none⟩)]),ZO.subs s1)]) (Z1 a es s0 s1)):=by
     refine⟨by rw[HX.out];exact HW,by rw[ay,T.out.len];rfl,λx hx=> ?_,?_⟩
     ·rcases abe.1 hx with hx|hx;·exact(T.does x hx).mono (λB cs h=>Zg T.own D h jD) dz (aP _)
      ·have dy:Below N w w6:=(HB.mono hN).trans dz;rcases abf.1 hx with rfl|hx;·exact⟨FX.1,FX.2.1,FX.2.2,VO q.s0,Um.below dy (aP _),.inl ⟨rfl,rfl⟩⟩
       ·rw[aaa.1 hx];exact⟨zz.1,zz.2.1,zz.2.2,VO q.s1,GQ.below dy (aP _),.inr ⟨rfl,rfl⟩⟩
     ·unfold Z1;rw[aH ha2,adb,T.out.src];rfl
    have HC:=aT (K2 zo lT CT hN jO);clear dz HW D HX T HB dE zo lT CT ca;refine HC.mono ?_;rintro e w7 ⟨rfl,ds',src',hp,hx,hb,Y,U⟩;have HR:=aT (And.intro hb (And.intro hx (And.intro hp (And.intro Y U))));clear hb hx hp Y U HC;go_wp2_with fail;go_ret;obtain⟨hb,hx,hp,Y,U⟩:=HR.out;exact⟨_,mB,pB,aB,oB,ds',src',rfl,hb,hx,by rw[hp.len];exact hp,Y,U⟩
   ·have cz:((a:Int) == 2)=false:=by rw[af];omega
    have zo:Hid (WH N w.heap.size a mB pB aB oB (ZA q) wr (.slice va L vc) L ds (Z1 a es s0 s1)):=by refine⟨T.own,T.len,T.does,?_⟩;unfold Z1;rw[aN ha2,ade];exact T.src
    have HC:=aT (K2 zo dE HB hN jO);clear T HB dE zo;go_wp2_with fail;refine HC.mono ?_;rintro e w7 ⟨rfl,ds',src',hp,hx,hb,Y,U⟩;have HR:=aT (And.intro hb (And.intro hx (And.intro hp (And.intro Y U))));clear hb hx hp Y U HC ca;go_wp2_with fail;go_ret;obtain⟨hb,hx,hp,Y,U⟩:=HR.out;exact⟨_,mB,pB,aB,oB,ds',src',rfl,hb,hx,by rw[hp.len];exact hp,Y,U⟩
theorem sZ(V M:BitVec 64):V &&& ~~~M=0#64↔V &&& M=V:=by
 constructor
 ·intro h
  ext i hi
  have A:=ax (λz=>z.getLsbD i) h;simp[hi] at A ⊢;cases hv:V[i]<;>cases hm:M[i]<;>simp_all
 ·intro h
  ext i hi
  have A:=ax (λz=>z.getLsbD i) h;simp[hi] at A ⊢;cases hv:V[i]<;>cases hm:M[i]<;>simp_all
theorem MW{v m:Nat}(hv:v<YO)(hm:m<YO):bits .andNot .u64 (v:Int) (m:Int)=0↔(v &&& m)=v:=by
 have e1:(YO:Nat)=2 ^ 64:=jD;show IntKind.u64.wrap ((BitVec.ofInt 64 (v:Int) &&& ~~~ BitVec.ofInt 64 (m:Int)).toNat:Int)=0↔_;rw[BitVec.ofInt_natCast,BitVec.ofInt_natCast];have D:=(BitVec.ofNat 64 v &&& ~~~ BitVec.ofNat 64 m).isLt;have A:=sZ (BitVec.ofNat 64 v) (BitVec.ofNat 64 m);have hw:IntKind.u64.wrap ((BitVec.ofNat 64 v &&& ~~~ BitVec.ofNat 64 m).toNat:Int)=((BitVec.ofNat 64 v &&& ~~~ BitVec.ofNat 64 m).toNat:Int):=by rw[IntKind.wrap_u64];omega
 rw[hw];have a:((BitVec.ofNat 64 v &&& ~~~ BitVec.ofNat 64 m).toNat:Int)=0↔BitVec.ofNat 64 v &&& ~~~ BitVec.ofNat 64 m=0#64:=by
  constructor;·intro h;apply BitVec.eq_of_toNat_eq;have:(BitVec.ofNat 64 v &&& ~~~ BitVec.ofNat 64 m).toNat=0:=jO;rw[this];rfl
  ·intro h;rw[h];rfl
 have b:BitVec.ofNat 64 v &&& BitVec.ofNat 64 m=BitVec.ofNat 64 v↔(v &&& m)=v:=by
  constructor;·intro h;have C:=ax BitVec.toNat h;rw[BitVec.toNat_and,aze,aze,ama jO,ama jO] at C;exact C
  ·intro h;apply BitVec.eq_of_toNat_eq;rw[BitVec.toNat_and,aze,aze,ama jO,ama jO];exact h
 exact a.trans (A.trans b)
def cC(c:Z5):Array Value:=#[.int .i64 c.a,.int .i64 c.o,.int .u64 c.m,.int .u64 c.v]
def nu:Yv->Z5
 | .asks c=>c
 | .always=>⟨0,0,0,0⟩
 | .never=>⟨0,0,0,0⟩
def dx:Yv->Int
 | .asks _=>0
 | .always=>1
 | .never=>2
def V9(s:Yv)(w:World):Ending->World->Prop:=λe w'=>e=.returned (.tuple #[.agg #[.int .i64 ((nu s).a:Int),.int .i64 ((nu s).o:Int),.int .u64 ((nu s).m:Int),.int .u64 ((nu s).v:Int)],.int .i64 (dx s)])/\Below w.heap.size w w'
theorem Z8.OE(W:World)(o:Obj)(t:TypeId)(cs:Array Value):Z8 ((W.alloc o).alloc (.cells cs t)) (W.heap.size+1) t cs:=by
 have h:=Z8.new (W.alloc o) t cs;rwa [ai] at h
theorem Z8.af0(W:World)(o A:Obj)(t:TypeId)(cs:Array Value):Z8 (((W.alloc o).alloc A).alloc (.cells cs t)) (W.heap.size+2) t cs:=by
 have h:=Z8.OE (W.alloc o) A t cs;rwa [ai] at h
theorem Yk(W:World)(o:Obj):Below W.heap.size W (W.alloc o):=(aG _ W).alloc (aP _) _
theorem JK(W:World)(o A:Obj):Below W.heap.size W ((W.alloc o).alloc A):=(Yk W o).alloc jS _
theorem af1(W:World)(o A C:Obj):Below W.heap.size W (((W.alloc o).alloc A).alloc C):=(JK W o A).alloc (by simp;omega) _
theorem Zu{fn:Func}{t u:Tmp}(h:fn.results=#[.cell t 68,.tmp u]){tmps:Array Value}{c0 c1:Value}(hb:Z8 W R 68 #[c0,c1,c2,c3])(ht:tmps.getD t undef=.pointer (some ⟨R,0,none⟩)):(results fn tmps).run prog W=.ok (.tuple #[.agg #[c0,c1,c2,c3],tmps.getD u undef]) W:=by
 have e0:=hb.cell 0;have e1:=hb.cell 1;have e2:=hb.cell 2;have e3:=hb.cell 3;rw[aja] at ht;simp at e0 e1 e2 e3;simp[results,h,go_sem,ht,e0,e1,e2,e3]
theorem ZH{c0 c1:Value}(hb:Z8 W R t #[c0,c1,c2,c3])(I A C D:Value):Z8 ((((W.setCell ⟨R,0,none⟩ I).setCell ⟨R,1,none⟩ A).setCell ⟨R,2,none⟩ C).setCell ⟨R,3,none⟩ D) R t #[I,A,C,D]:=(((hb.set 0 I).set 1 A).set 2 C).set 3 D
theorem ZG {n:Nat}(hb:Below n w W)(h:n<=R)(I A C D:Value):Below n w ((((W.setCell ⟨R,0,none⟩ I).setCell ⟨R,1,none⟩ A).setCell ⟨R,2,none⟩ C).setCell ⟨R,3,none⟩ D):=(((hb.setCell (p:=⟨R,0,none⟩) h I).setCell (p:=⟨R,1,none⟩) h A).setCell (p:=⟨R,2,none⟩) h C).setCell (p:=⟨R,3,none⟩) h D
theorem Z7{c0 c1:Value}(hb:Z8 W R t #[c0,c1,c2,c3]):(W.cell? ⟨R,0,none⟩=some c0/\W.cell? ⟨R,1,none⟩=some c1/\W.cell? ⟨R,2,none⟩=some c2/\W.cell? ⟨R,3,none⟩=some c3)/\W.frozen? ⟨R,0,none⟩=false/\W.frozen? ⟨R,1,none⟩=false/\W.frozen? ⟨R,2,none⟩=false/\W.frozen? ⟨R,3,none⟩=false:=by
 obtain⟨e0,e1,e2,e3⟩:=hb.q4;exact⟨⟨e0,e1,e2,e3⟩,hb.frozen 0,hb.frozen 1,hb.frozen 2,hb.frozen 3⟩
theorem Q7(b:Bool)(w:World):Calls prog 216 #[.bool b] w (V9 (if b then .always else .never) w):=by
 cases b with
 |true=>
  go_enter func216,ntmps216;go_wp2_with fail;refine aaf (Zu rfl (Z8.new w _ _) rfl) rfl ?_;exact⟨rfl,Yk w _⟩
 |false=>
  go_enter func216,ntmps216;go_wp2_with fail;refine aaf (Zu rfl (Z8.new w _ _) rfl) rfl ?_;exact⟨rfl,Yk w _⟩
theorem UQ(c:Z5)(op u:Nat)(w:World):Calls prog 340 #[.agg (cC c),.int .i64 op,.int .u64 u] w (V9 (.asks ⟨c.a,op,0,u⟩) w):=by
 obtain⟨a,o,m,v⟩:=c;unfold cC;dsimp only;go_enter func340,ntmps340;go_wp2_with fail;refine aaf (Zu rfl (Z8.OE _ _ _ _) rfl) rfl ?_;exact⟨rfl,JK w _ _⟩
theorem Xi(c:Z5)(w:World)(t:Nat):Hid (Z8 ((w.alloc (.cells (cC c) t)).alloc (.cells #[.int .i64 0,.int .i64 0,.int .u64 0,.int .u64 0] t)) w.heap.size t (cC c))/\Hid (Z8 ((w.alloc (.cells (cC c) t)).alloc (.cells #[.int .i64 0,.int .i64 0,.int .u64 0,.int .u64 0] t)) (w.heap.size+1) t #[.int .i64 0,.int .i64 0,.int .u64 0,.int .u64 0])/\Hid (Below w.heap.size w ((w.alloc (.cells (cC c) t)).alloc (.cells #[.int .i64 0,.int .i64 0,.int .u64 0,.int .u64 0] t))):=
 ⟨(Z8.new w _ _).alloc _,Z8.OE _ _ _ _,JK w _ _⟩
theorem K1(c:Z5)(u:Nat)(w:World):Calls prog 287 #[.agg (cC c),.int .u64 u] w (V9 (Yj c u) w):=by
 generalize hS:Yj c u=S;have Y:=aT hS;clear hS;obtain⟨HP,D,I⟩:=Xi c w 68;have HC:=aT (λop u W=>UQ c op u W);obtain⟨a,o,m,v⟩:=c;unfold cC at*;dsimp only at*;go_enter func287,ntmps287;go_upto_region 1 with fail;generalize (w.alloc (.cells #[.int .i64 a,.int .i64 o,.int .u64 m,.int .u64 v] 68)).alloc (.cells #[.int .i64 0,.int .i64 0,.int .u64 0,.int .u64 0] 68)=w1 at*;obtain⟨⟨p0,p1,p2,p3⟩,_⟩:=Z7 HP;obtain⟨R,hR⟩:=jX (w.heap.size+1);rw[hR] at D ⊢;have J:w.heap.size<=R:=jO;clear hR;by_cases U:u=0
 ·subst U;go_wp2_with fail;refine(Q7 false w1).mono ?_;rintro e w2 ⟨rfl,hb⟩;have A:=aT (D.below hb D.lt);have C:=aT (I.trans (hb.mono I.size));obtain⟨⟨r0,r1,r2,r3⟩,f0,Z,f2,f3⟩:=Z7 A;clear hb D I;go_wp2_with fail;refine aaf (Zu rfl (ZH A _ _ _ _) rfl) rfl ?_;exact⟨by rw[<-Y.out];first|(unfold Yj;rw[aH rfl];rfl)|(unfold XC;rw[aH rfl];rfl)|(unfold WM;rw[aH rfl];rfl)|(rw[aH rfl];rfl),ZG C J _ _ _ _⟩
 ·have h0':((u:Int) == 0)=false:=by rw[af];omega
  by_cases T:u=1;·subst T;go_wp2_with fail;refine(HC 1 0 w1).mono ?_;rintro e w2 ⟨rfl,hb⟩;have A:=aT (D.below hb D.lt);have C:=aT (I.trans (hb.mono I.size));obtain⟨⟨r0,r1,r2,r3⟩,f0,Z,f2,f3⟩:=Z7 A;clear hb D I;go_wp2_with fail;refine aaf (Zu rfl (ZH A _ _ _ _) rfl) rfl ?_;exact⟨by rw[<-Y.out];first|(unfold Yj;rw[aN jD,aH rfl];rfl)|(unfold XC;rw[aN jD,aH rfl];rfl)|(unfold WM;rw[aN jD,aH rfl];rfl)|(rw[aN jD,aH rfl];rfl),ZG C J _ _ _ _⟩
  ·have h1':((u:Int) == 1)=false:=by rw[af];omega
   go_wp2_with fail;refine(HC 3 u w1).mono ?_;rintro e w2 ⟨rfl,hb⟩;have A:=aT (D.below hb D.lt);have C:=aT (I.trans (hb.mono I.size));obtain⟨⟨r0,r1,r2,r3⟩,f0,Z,f2,f3⟩:=Z7 A;clear hb D I;go_wp2_with fail;refine aaf (Zu rfl (ZH A _ _ _ _) rfl) rfl ?_;exact⟨by rw[<-Y.out];first|(unfold Yj;rw[aN U,aN T];rfl)|(unfold XC;rw[aN U,aN T];rfl)|(unfold WM;rw[aN U,aN T];rfl)|(rw[aN U,aN T];rfl),ZG C J _ _ _ _⟩
theorem Jc(c:Z5)(u:Nat)(w:World):Calls prog 289 #[.agg (cC c),.int .u64 u] w (V9 (XC c u) w):=by
 generalize hS:XC c u=S;have Z:=aT hS;clear hS;obtain⟨HP,D,T⟩:=Xi c w 68;have HC:=aT (λop u W=>UQ c op u W);obtain⟨a,o,m,v⟩:=c;unfold cC at*;dsimp only at*;go_enter func289,ntmps289;go_upto_region 1 with fail;generalize (w.alloc (.cells #[.int .i64 a,.int .i64 o,.int .u64 m,.int .u64 v] 68)).alloc (.cells #[.int .i64 0,.int .i64 0,.int .u64 0,.int .u64 0] 68)=w1 at*;obtain⟨⟨p0,p1,p2,p3⟩,_⟩:=Z7 HP;obtain⟨R,hR⟩:=jX (w.heap.size+1);rw[hR] at D ⊢;have U:w.heap.size<=R:=jO;clear hR;by_cases J:u=0
 ·subst J;go_wp2_with fail;refine(Q7 true w1).mono ?_;rintro e w2 ⟨rfl,hb⟩;have A:=aT (D.below hb D.lt);have C:=aT (T.trans (hb.mono T.size));obtain⟨⟨r0,r1,r2,r3⟩,f0,f1,f2,f3⟩:=Z7 A;clear hb D T;go_wp2_with fail;refine aaf (Zu rfl (ZH A _ _ _ _) rfl) rfl ?_;exact⟨by rw[<-Z.out];first|(unfold Yj;rw[aH rfl];rfl)|(unfold XC;rw[aH rfl];rfl)|(unfold WM;rw[aH rfl];rfl)|(rw[aH rfl];rfl),ZG C U _ _ _ _⟩
 ·have h0':((u:Int) == 0)=false:=by rw[af];omega
  by_cases Y:u=YO-1
  ·have h1':((u:Int) == 18446744073709551615)=true:=by rw[ahc,Y];unfold YO;omega
   have I:=aT Y;clear Y;go_wp2_with fail;refine(HC 1 u w1).mono ?_;rintro e w2 ⟨rfl,hb⟩;have A:=aT (D.below hb D.lt);have C:=aT (T.trans (hb.mono T.size));obtain⟨⟨r0,r1,r2,r3⟩,f0,f1,f2,f3⟩:=Z7 A;clear hb D T;go_wp2_with fail;refine aaf (Zu rfl (ZH A _ _ _ _) rfl) rfl ?_;exact⟨by rw[<-Z.out];first|(unfold Yj;rw[aN J,aH I.out];rfl)|(unfold XC;rw[aN J,aH I.out];rfl)|(unfold WM;rw[aN J,aH I.out];rfl)|(rw[aN J,aH I.out];rfl),ZG C U _ _ _ _⟩
  ·have h1':((u:Int) == 18446744073709551615)=false:=by
    rw[af];intro e;apply Y;unfold YO;omega
   have I:=aT Y;clear Y;go_wp2_with fail;refine(HC 6 u w1).mono ?_;rintro e w2 ⟨rfl,hb⟩;have A:=aT (D.below hb D.lt);have C:=aT (T.trans (hb.mono T.size));obtain⟨⟨r0,r1,r2,r3⟩,f0,f1,f2,f3⟩:=Z7 A;clear hb D T;go_wp2_with fail;refine aaf (Zu rfl (ZH A _ _ _ _) rfl) rfl ?_;exact⟨by rw[<-Z.out];first|(unfold Yj;rw[aN J,aN I.out];rfl)|(unfold XC;rw[aN J,aN I.out];rfl)|(unfold WM;rw[aN J,aN I.out];rfl)|(rw[aN J,aN I.out];rfl),ZG C U _ _ _ _⟩
theorem xw(c:Z5)(hm:c.m<YO)(hv:c.v<YO)(w:World):Calls prog 285 #[.agg (cC c)] w (V9 (WM c) w):=by
 generalize hS:WM c=S;have HS:=aT hS;clear hS;obtain⟨HP,I,T⟩:=Xi c w 68;have HC:=aT (λop u W=>UQ c op u W);have hk:=MW hv hm;obtain⟨a,o,m,v⟩:=c;unfold cC at*;dsimp only at*;go_enter func285,ntmps285;go_upto_region 1 with fail;generalize (w.alloc (.cells #[.int .i64 a,.int .i64 o,.int .u64 m,.int .u64 v] 68)).alloc (.cells #[.int .i64 0,.int .i64 0,.int .u64 0,.int .u64 0] 68)=w1 at*;obtain⟨⟨p0,p1,p2,p3⟩,_⟩:=Z7 HP;obtain⟨R,hR⟩:=jX (w.heap.size+1);rw[hR] at I ⊢;have U:w.heap.size<=R:=jO;clear hR;by_cases h0:bits .andNot .u64 (v:Int) (m:Int)=0
 ·have hn:¬(v &&& m)≠v:=λe=>e (hk.1 h0)
  have A:=aT hn;have mi:(bits .andNot .u64 (v:Int) (m:Int) != 0)=false:=by simpa using h0
  clear hn hk;by_cases h1:m=0
  ·have h1z:((m:Int) == 0)=true:=by rw[ahc];omega
   have D:=aT h1;clear h1;go_wp2_with fail;refine(Q7 true w1).mono ?_;rintro e w2 ⟨rfl,hb⟩;have C:=aT (I.below hb I.lt);have J:=aT (T.trans (hb.mono T.size));obtain⟨⟨r0,r1,r2,r3⟩,f0,f1,f2,f3⟩:=Z7 C;clear hb I T;go_wp2_with fail;refine aaf (Zu rfl (ZH C _ _ _ _) rfl) rfl ?_;exact⟨by rw[<-HS.out];first|(unfold Yj;rw[aN A.out,aH D.out];rfl)|(unfold XC;rw[aN A.out,aH D.out];rfl)|(unfold WM;rw[aN A.out,aH D.out];rfl)|(rw[aN A.out,aH D.out];rfl),ZG J U _ _ _ _⟩
  ·have h1z:((m:Int) == 0)=false:=by rw[af];omega
   have D:=aT h1;clear h1;by_cases Z:m=YO-1
   ·have h2z:((m:Int) == 18446744073709551615)=true:=by rw[ahc,Z];unfold YO;omega
    have Y:=aT Z;clear Z;go_wp2_with fail;refine(HC 1 v w1).mono ?_;rintro e w2 ⟨rfl,hb⟩;have C:=aT (I.below hb I.lt);have J:=aT (T.trans (hb.mono T.size));obtain⟨⟨r0,r1,r2,r3⟩,f0,f1,f2,f3⟩:=Z7 C;clear hb I T;go_wp2_with fail;refine aaf (Zu rfl (ZH C _ _ _ _) rfl) rfl ?_;exact⟨by rw[<-HS.out];first|(unfold Yj;rw[aN A.out,aN D.out,aH Y.out];rfl)|(unfold XC;rw[aN A.out,aN D.out,aH Y.out];rfl)|(unfold WM;rw[aN A.out,aN D.out,aH Y.out];rfl)|(rw[aN A.out,aN D.out,aH Y.out];rfl),ZG J U _ _ _ _⟩
   ·have h2z:((m:Int) == 18446744073709551615)=false:=by rw[af];intro e;apply Z;unfold YO;omega
    have Y:=aT Z;clear Z;obtain⟨⟨r0,r1,r2,r3⟩,f0,f1,f2,f3⟩:=Z7 I;go_wp2_with fail;refine aaf (Zu rfl (ZH I _ _ _ _) rfl) rfl ?_;exact⟨by rw[<-HS.out];first|(unfold Yj;rw[aN A.out,aN D.out,aN Y.out];rfl)|(unfold XC;rw[aN A.out,aN D.out,aN Y.out];rfl)|(unfold WM;rw[aN A.out,aN D.out,aN Y.out];rfl)|(rw[aN A.out,aN D.out,aN Y.out];rfl),ZG T U _ _ _ _⟩
 ·have hn:(v &&& m)≠v:=λe=>h0 (hk.2 e)
  have A:=aT hn;have mi:(bits .andNot .u64 (v:Int) (m:Int) != 0)=true:=by simpa using h0
  clear hn hk;go_wp2_with fail;refine(Q7 false w1).mono ?_;rintro e w2 ⟨rfl,hb⟩;have C:=aT (I.below hb I.lt);have J:=aT (T.trans (hb.mono T.size));obtain⟨⟨r0,r1,r2,r3⟩,f0,f1,f2,f3⟩:=Z7 C;clear hb I T;go_wp2_with fail;refine aaf (Zu rfl (ZH C _ _ _ _) rfl) rfl ?_;exact⟨by rw[<-HS.out];first|(unfold Yj;rw[aH A.out];rfl)|(unfold XC;rw[aH A.out];rfl)|(unfold WM;rw[aH A.out];rfl)|(rw[aH A.out];rfl),ZG J U _ _ _ _⟩
theorem zn(c:Z5)(w:World):Calls prog 284 #[.agg (cC c)] w (V9 (.asks c) w):=by
 obtain⟨I,C,J⟩:=Xi c w 68;have Y:=aT (λop u W=>UQ c op u W);obtain⟨a,o,m,v⟩:=c;unfold cC at*;dsimp only at*;go_enter func284,ntmps284;go_upto_region 1 with fail;generalize (w.alloc (.cells #[.int .i64 a,.int .i64 o,.int .u64 m,.int .u64 v] 68)).alloc (.cells #[.int .i64 0,.int .i64 0,.int .u64 0,.int .u64 0] 68)=w1 at*;obtain⟨⟨p0,p1,p2,p3⟩,_⟩:=Z7 I;obtain⟨R,D⟩:=jX (w.heap.size+1);rw[D] at C ⊢;have A:w.heap.size<=R:=jO;clear D;obtain⟨⟨r0,r1,r2,r3⟩,U,T,Z,f3⟩:=Z7 C;go_wp2_with fail;refine aaf (Zu rfl (ZH C _ _ _ _) rfl) rfl ?_;exact⟨rfl,ZG J A _ _ _ _⟩
theorem lS(c:Z5)(w:World):Calls prog 286 #[.agg (cC c)] w (V9 (Yj c c.v) w):=by
 obtain⟨U,C,J⟩:=Xi c w 68;have HC:=aT (λop u W=>UQ c op u W);have Y:=aT (λu W=>K1 c u W);obtain⟨a,o,m,v⟩:=c;unfold cC at*;dsimp only at*;go_enter func286,ntmps286;go_upto_region 1 with fail;generalize (w.alloc (.cells #[.int .i64 a,.int .i64 o,.int .u64 m,.int .u64 v] 68)).alloc (.cells #[.int .i64 0,.int .i64 0,.int .u64 0,.int .u64 0] 68)=w1 at*;obtain⟨⟨p0,p1,p2,p3⟩,_⟩:=Z7 U;obtain⟨R,T⟩:=jX (w.heap.size+1);rw[T] at C ⊢;have I:w.heap.size<=R:=jO;clear T;go_wp2_with fail;refine(Y v w1).mono ?_;rintro e w2 ⟨rfl,hb⟩;have A:=aT (C.below hb C.lt);have D:=aT (J.trans (hb.mono J.size));obtain⟨⟨r0,r1,r2,r3⟩,f0,Z,f2,f3⟩:=Z7 A;clear hb C J;go_wp2_with fail;refine aaf (Zu rfl (ZH A _ _ _ _) rfl) rfl ?_;exact⟨rfl,ZG D I _ _ _ _⟩
theorem lR(c:Z5)(w:World):Calls prog 288 #[.agg (cC c)] w (V9 (XC c c.v) w):=by
 obtain⟨U,C,J⟩:=Xi c w 68;have HC:=aT (λop u W=>UQ c op u W);have Y:=aT (λu W=>Jc c u W);obtain⟨a,o,m,v⟩:=c;unfold cC at*;dsimp only at*;go_enter func288,ntmps288;go_upto_region 1 with fail;generalize (w.alloc (.cells #[.int .i64 a,.int .i64 o,.int .u64 m,.int .u64 v] 68)).alloc (.cells #[.int .i64 0,.int .i64 0,.int .u64 0,.int .u64 0] 68)=w1 at*;obtain⟨⟨p0,p1,p2,p3⟩,_⟩:=Z7 U;obtain⟨R,T⟩:=jX (w.heap.size+1);rw[T] at C ⊢;have I:w.heap.size<=R:=jO;clear T;go_wp2_with fail;refine(Y v w1).mono ?_;rintro e w2 ⟨rfl,hb⟩;have A:=aT (C.below hb C.lt);have D:=aT (J.trans (hb.mono J.size));obtain⟨⟨r0,r1,r2,r3⟩,f0,Z,f2,f3⟩:=Z7 A;clear hb C J;go_wp2_with fail;refine aaf (Zu rfl (ZH A _ _ _ _) rfl) rfl ?_;exact⟨rfl,ZG D I _ _ _ _⟩
theorem lQ(c:Z5)(hv:c.v<YO)(w:World):Calls prog 290 #[.agg (cC c)] w (V9 (if c.v=YO-1 then .always else Yj c (c.v+1)) w):=by
 generalize hS:(if c.v=YO-1 then Yv.always else Yj c (c.v+1))=S;have HS:=aT hS;clear hS;obtain⟨HP,D,T⟩:=Xi c w 68;have HC:=aT (λop u W=>UQ c op u W);have HU:=aT (λu W=>K1 c u W);obtain⟨a,o,m,v⟩:=c;unfold cC at*;dsimp only at*;go_enter func290,ntmps290;go_upto_region 1 with fail;generalize (w.alloc (.cells #[.int .i64 a,.int .i64 o,.int .u64 m,.int .u64 v] 68)).alloc (.cells #[.int .i64 0,.int .i64 0,.int .u64 0,.int .u64 0] 68)=w1 at*;obtain⟨⟨p0,p1,p2,p3⟩,_⟩:=Z7 HP;obtain⟨R,hR⟩:=jX (w.heap.size+1);rw[hR] at D ⊢;have U:w.heap.size<=R:=jO;clear hR;by_cases I:v=YO-1
 ·have Y:((v:Int) == 18446744073709551615)=true:=by rw[ahc,I];unfold YO;omega
  have J:=aT I;clear I hv;go_wp2_with fail;refine(Q7 true w1).mono ?_;rintro e w2 ⟨rfl,hb⟩;have A:=aT (D.below hb D.lt);have C:=aT (T.trans (hb.mono T.size));obtain⟨⟨r0,r1,r2,r3⟩,f0,f1,f2,f3⟩:=Z7 A;clear hb D T;go_wp2_with fail;refine aaf (Zu rfl (ZH A _ _ _ _) rfl) rfl ?_;exact⟨by rw[<-HS.out];first|(unfold Yj;rw[aH J.out];rfl)|(unfold XC;rw[aH J.out];rfl)|(unfold WM;rw[aH J.out];rfl)|(rw[aH J.out];rfl),ZG C U _ _ _ _⟩
 ·have Z:v+1<18446744073709551616:=by unfold YO at hv I;omega
  have Y:((v:Int) == 18446744073709551615)=false:=by rw[af];omega
  have iw:IntKind.u64.wrap ((v:Int)+1)=((v+1:Nat):Int):=by rw[aue _ jO];omega
  obtain⟨x,hx⟩:=jX (v+1);rw[hx] at iw;have HX:=aT hx;have J:=aT I;clear hx hv Z I;go_wp2_with fail;refine(HU x w1).mono ?_;rintro e w2 ⟨rfl,hb⟩;have A:=aT (D.below hb D.lt);have C:=aT (T.trans (hb.mono T.size));obtain⟨⟨r0,r1,r2,r3⟩,f0,f1,f2,f3⟩:=Z7 A;clear hb D T;go_wp2_with fail;refine aaf (Zu rfl (ZH A _ _ _ _) rfl) rfl ?_;exact⟨by rw[<-HS.out,aN J.out,HX.out];rfl,ZG C U _ _ _ _⟩
theorem lO(c:Z5)(hv:c.v<YO)(w:World):Calls prog 291 #[.agg (cC c)] w (V9 (if c.v=YO-1 then .never else XC c (c.v+1)) w):=by
 generalize hS:(if c.v=YO-1 then Yv.never else XC c (c.v+1))=S;have HS:=aT hS;clear hS;obtain⟨HP,D,T⟩:=Xi c w 68;have HC:=aT (λop u W=>UQ c op u W);have HU:=aT (λu W=>Jc c u W);obtain⟨a,o,m,v⟩:=c;unfold cC at*;dsimp only at*;go_enter func291,ntmps291;go_upto_region 1 with fail;generalize (w.alloc (.cells #[.int .i64 a,.int .i64 o,.int .u64 m,.int .u64 v] 68)).alloc (.cells #[.int .i64 0,.int .i64 0,.int .u64 0,.int .u64 0] 68)=w1 at*;obtain⟨⟨p0,p1,p2,p3⟩,_⟩:=Z7 HP;obtain⟨R,hR⟩:=jX (w.heap.size+1);rw[hR] at D ⊢;have U:w.heap.size<=R:=jO;clear hR;by_cases I:v=YO-1
 ·have Y:((v:Int) == 18446744073709551615)=true:=by rw[ahc,I];unfold YO;omega
  have J:=aT I;clear I hv;go_wp2_with fail;refine(Q7 false w1).mono ?_;rintro e w2 ⟨rfl,hb⟩;have A:=aT (D.below hb D.lt);have C:=aT (T.trans (hb.mono T.size));obtain⟨⟨r0,r1,r2,r3⟩,f0,f1,f2,f3⟩:=Z7 A;clear hb D T;go_wp2_with fail;refine aaf (Zu rfl (ZH A _ _ _ _) rfl) rfl ?_;exact⟨by rw[<-HS.out];first|(unfold Yj;rw[aH J.out];rfl)|(unfold XC;rw[aH J.out];rfl)|(unfold WM;rw[aH J.out];rfl)|(rw[aH J.out];rfl),ZG C U _ _ _ _⟩
 ·have Z:v+1<18446744073709551616:=by unfold YO at hv I;omega
  have Y:((v:Int) == 18446744073709551615)=false:=by rw[af];omega
  have iw:IntKind.u64.wrap ((v:Int)+1)=((v+1:Nat):Int):=by rw[aue _ jO];omega
  obtain⟨x,hx⟩:=jX (v+1);rw[hx] at iw;have HX:=aT hx;have J:=aT I;clear hx hv Z I;go_wp2_with fail;refine(HU x w1).mono ?_;rintro e w2 ⟨rfl,hb⟩;have A:=aT (D.below hb D.lt);have C:=aT (T.trans (hb.mono T.size));obtain⟨⟨r0,r1,r2,r3⟩,f0,f1,f2,f3⟩:=Z7 A;clear hb D T;go_wp2_with fail;refine aaf (Zu rfl (ZH A _ _ _ _) rfl) rfl ?_;exact⟨by rw[<-HS.out,aN J.out,HX.out];rfl,ZG C U _ _ _ _⟩
def NA:List (Value×Value):=[(.int .i64 1,(.func (.func 284) #[] #[])),(.int .i64 2,(.func (.func 284) #[] #[])),(.int .i64 7,(.func (.func 285) #[] #[])),(.int .i64 3,(.func (.func 286) #[] #[])),(.int .i64 6,(.func (.func 288) #[] #[])),(.int .i64 4,(.func (.func 290) #[] #[])),(.int .i64 5,(.func (.func 291) #[] #[]))]
def MV(o:Nat):Nat:=if o=1\/o=2 then 284 else if o=3 then 286 else if o=4 then 290 else if o=5 then 291 else if o=6 then 288 else 285
theorem sY:Keyed prog 3:=int_keyed underlying3
theorem af2(n:Int)(h: -9223372036854775808<=n/\n<=9223372036854775807):∃l,keyOf prog 3 (.int .i64 n)=some l:=⟨_,keyOf_int_mk underlying3 (by
 show(decide (IntKind.i64.min<=n)&&decide (n<=IntKind.i64.max))=true;rw[show IntKind.i64.min= -9223372036854775808 from jD,show IntKind.i64.max=9223372036854775807 from jD];simp only[aeg,adg];exact h)⟩
theorem sX (h:1<=o/\o<=7):((Value.int .i64 o,Value.func (.func (MV o)) #[] #[]):Value×Value)∈NA:=by
 rcases (show o=1\/o=2\/o=3\/o=4\/o=5\/o=6\/o=7 from jO) with rfl|rfl|rfl|rfl|rfl|rfl|rfl<;>simp[NA,MV]
theorem xu {B:Nat}(h:ZB W B NA)(ho:1<=o/\o<=7):(Instr.lookup 325 (.map (some B)) (.int .i64 o) false).run prog W=.ok (.func (.func (MV o)) #[] #[]) W:=
 Xu underlying325 sY h (RU underlying3 jR) (af2 _ jO) (sX ho) (by simp[NA])
theorem xr(w:World):Calls prog 217 #[] w λe w'=>∃B,e=.returned (.map (some B))/\ZB w' B NA/\Below w.heap.size w w':=by
 have D:= @apb prog;have A:=aT (NJ.made w);have J:=aT (Yk w (.map #[] 0));go_enter func217,ntmps217
 go_wp2_with (refine YV rfl rfl 325 _ _ _ rfl 3 261 sY underlying325 w w.heap.size _ A rfl _ _ rfl rfl ?hS ?hk ?hn ?_;(case hk=>exact af2 _ jO);(case hS=>exact RU underlying3 jR);(case hn=>exact Li jR);clear A;intro I C;have A:=aT C;clear C)
 go_ret;exact⟨w.heap.size,rfl,A.map,(aG w.heap.size w).grown A.grown (aP _) (λk e=>by have:=au e;omega)⟩
end Go.Proofs.YtclgigmgbebhgaaGreatDoor
namespace Go.Proofs.YtclgigmgbebhgaaGreatDoor
open Tryz
open Go Go.Proofs Go.RowKit
def WR(x y:Int):Int:=if x<y then -1 else if y<x then 1 else 0
def lN:List Int->Int
 |[]=>0
 |x::l=>if x=0 then lN l else x
def xq(x y:Z5):Int:=lN [WR x.a y.a,WR x.o y.o,WR x.m y.m,WR x.v y.v]
theorem sW(x:Int)(w:World):Calls prog 300 #[.int .i64 x] w λe w'=>e=.returned (.bool false)/\w'=w:=by
 go_enter func300,ntmps300;go_wp2_with fail;go_ret;exact⟨jS,rfl⟩
theorem sV(x:Int)(w:World):Calls prog 301 #[.int .u64 x] w λe w'=>e=.returned (.bool false)/\w'=w:=by
 go_enter func301,ntmps301;go_wp2_with fail;go_ret;exact⟨jS,rfl⟩
theorem sU(x y:Int)(w:World):Calls prog 220 #[.int .i64 x,.int .i64 y] w λe w'=>e=.returned (.int .i64 (WR x y))/\w'=w:=by
 generalize hS:WR x y=S;have A:=aT hS;clear hS;go_enter func220,ntmps220;go_wp2_with fail;refine(sW _ _).mono ?_;rintro e C ⟨rfl,rfl⟩;go_wp2_with fail;refine(sW _ _).mono ?_;rintro e C ⟨rfl,rfl⟩;by_cases I:x<y;·go_wp2_with fail;go_ret;exact⟨OT (by rw[<-A.out];unfold WR;split<;>(try split)<;>omega),rfl⟩
 ·by_cases D:y<x;·go_wp2_with fail;go_ret;exact⟨OT (by rw[<-A.out];unfold WR;split<;>(try split)<;>omega),rfl⟩
  ·go_wp2_with fail;go_ret;exact⟨OT (by rw[<-A.out];unfold WR;split<;>(try split)<;>omega),rfl⟩
theorem sT(x y:Int)(w:World):Calls prog 221 #[.int .u64 x,.int .u64 y] w λe w'=>e=.returned (.int .i64 (WR x y))/\w'=w:=by
 generalize hS:WR x y=S;have A:=aT hS;clear hS;go_enter func221,ntmps221;go_wp2_with fail;refine(sV _ _).mono ?_;rintro e C ⟨rfl,rfl⟩;go_wp2_with fail;refine(sV _ _).mono ?_;rintro e C ⟨rfl,rfl⟩;by_cases I:x<y;·go_wp2_with fail;go_ret;exact⟨OT (by rw[<-A.out];unfold WR;split<;>(try split)<;>omega),rfl⟩
 ·by_cases D:y<x;·go_wp2_with fail;go_ret;exact⟨OT (by rw[<-A.out];unfold WR;split<;>(try split)<;>omega),rfl⟩
  ·go_wp2_with fail;go_ret;exact⟨OT (by rw[<-A.out];unfold WR;split<;>(try split)<;>omega),rfl⟩
theorem sS{l:List Int}{j:Nat}{x:Int}(h:l[j]? =some x):lN (l.drop j)=if x=0 then lN (l.drop (j+1)) else x:=by
 obtain⟨A,rfl⟩:=aq.1 h;rw[aua A];rfl
theorem lM{B L c:Nat}{l:List Int}(hl:l.length=L)(T:L<=1000)(w:World)(h:∀(j:Nat) (x:Int),l[j]? =some x->w.cell? ⟨B,j,none⟩=some (.int .i64 x)):
 Calls prog 219 #[.slice (some ⟨B,0,none⟩) L c] w λe w'=>e=.returned (.int .i64 (lN l))/\w'=w:=by
 have J:=aT hl;have Z:=aT h;clear hl h;go_enter func219,ntmps219;go_upto_region 3 with fail;go_loopg [8] (L+1) (λgg iv wr=>w=wr/\∃j:Nat,j<=L/\L-j<gg/\iv=.int .i64 (j:Int)/\Hid (lN (l.drop j)=lN l));case atStart=>exact⟨rfl,0,abb _,jO,rfl,(by show _=_;rfl)⟩
 case round=>
  obtain⟨rfl,j,hj,VM,rfl,U⟩:=hrel;have i0:=jZ j;by_cases D:j<L
  ·have C:(j:Int)<(L:Int):=by omega
   obtain⟨x,hx⟩:∃x,l[j]? =some x:=⟨_,aM (by rw[J.out];exact D)⟩;have y0:=Z j x hx;have hd:=sS hx;rw[U.out] at hd;have iw:=jW j;by_cases I:x=0
   ·subst I;rw[aH rfl] at hd;have A:=aT hd.symm;clear hd hx;go_wp2_with fail;go_roundg (L-j);case measure=>omega
    case rel=>exact⟨rfl,j+1,jO,jO,by go_num,A⟩
   ·rw[aN I] at hd;have Y:(x != 0)=true:=by simpa using I
    have A:=aT hd;clear hd hx;go_wp2_with fail;go_ret;exact⟨OT A.symm,rfl⟩
  ·obtain rfl:L=j:=by omega
   have C:¬(L:Int)<(L:Int):=jO;have hd:=U.out;rw[anc (by rw[J.out];exact aP _)] at hd;have A:=aT hd;clear hd;go_wp2_with fail;go_ret;exact⟨OT A,rfl⟩
theorem OD(x y:Int):WR x y<0↔x<y:=by unfold WR;split<;>(try split)<;>omega
theorem Q6(x y:Int):WR x y=0↔x=y:=by unfold WR;split<;>(try split)<;>omega
def ltC(x y:Z5):Prop:=x.a<y.a\/(x.a=y.a/\(x.o<y.o\/(x.o=y.o/\(x.m<y.m\/(x.m=y.m/\x.v<y.v)))))
theorem Vl(x y:Z5):xq x y<0↔ltC x y:=by
 have a1:=OD x.a y.a;have a0:=Q6 x.a y.a;have A:=OD x.o y.o;have C:=Q6 x.o y.o;have m1:=OD x.m y.m;have m0:=Q6 x.m y.m;have D:=OD x.v y.v;have I:=Q6 x.v y.v;unfold xq ltC;simp only[lN];split
 ·split
  ·split;·split<;>omega
   ·omega
  ·omega
 ·omega
theorem ap3:Go.Sort.SWO (λx y:Z5=>decide (xq x y<0)) where
 irrefl x:=by have:=Vl x x;unfold ltC at this;simp only[apf];omega
 trans x y z h1 h2:=by have e1:=Vl x y;have e2:=Vl y z;have e3:=Vl x z;unfold ltC at e1 e2 e3;simp only[adg] at*;omega
 ntrans x y z h1 h2:=by have e1:=Vl x y;have e2:=Vl y z;have e3:=Vl x z;unfold ltC at e1 e2 e3;simp only[apf] at*;omega
theorem Ey{P:Program}{o:Oper}{a:Act}(w:World){K:Act->World->Prop}{Q:Exit->Act->World->Prop}(t:TypeId){e:TypeId}{ie:TypeInfo}{sz:Nat}(ho:o.op=.buildSlice t 0 #[])(hu:P.underlying t=some (.slice e))(A:P.info? e=some ie)(hs:ie.size=sz)
 (h:K (a.put o.dst (.slice (some ⟨w.heap.size,0,none⟩) 0 0)) (w.alloc (.cells #[] e))):o.wp P a w K Q:=by
 have hr:(Instr.buildSlice t 0 #[]).run P w=.ok (.slice (some ⟨w.heap.size,0,none⟩) 0 0) (w.alloc (.cells #[] e)):=by
  have hz:Array.range 0=#[]:=by simp[Array.range]
  simp[Instr.buildSlice,akd hu,sizeOf,typeInfo,A,Instr.fill,newRow,hz]
 unfold Oper.wp execOp;simp only[ho,Sem.run_bind,List.map_toArray,ard,hr,awd];exact h
theorem Ex(c:Z5)(hm:c.m<YO)(hv:c.v<YO)(w:World):Calls prog 144 #[.agg (cC c)] w (V9 (Zk c) w):=by
 generalize hS:Zk c=S;have D:=aT hS;clear hS;obtain⟨HP,I,Y⟩:=Xi c w 68;obtain⟨a,o,m,v⟩:=c;unfold cC at*;dsimp only at*;go_enter func144,ntmps144;go_upto_region 1 with fail;generalize (w.alloc (.cells #[.int .i64 a,.int .i64 o,.int .u64 m,.int .u64 v] 68)).alloc (.cells #[.int .i64 0,.int .i64 0,.int .u64 0,.int .u64 0] 68)=w1 at*;obtain⟨⟨p0,p1,p2,p3⟩,_,_,pf2,_⟩:=Z7 HP;obtain⟨R,hR⟩:=jX (w.heap.size+1);rw[hR] at I ⊢;have A:w.heap.size<R:=jO;clear hR;obtain⟨⟨r0,r1,r2,r3⟩,f0,f1,f2,f3⟩:=Z7 I;by_cases hb:Vb-1<v
 ·have U:=aT hb;have hbz:(4294967295:Int)<(v:Int):=by unfold Vb at hb;omega
  clear hb;by_cases h2:o=2
  ·have h2z:((o:Int) == 2)=true:=by rw[ahc];omega
   have H2:=aT h2;clear h2;go_wp2_with fail;refine aaf (Zu rfl (ZH I _ _ _ _) rfl) rfl ?_;exact⟨by rw[<-D.out];unfold Zk;rw[aH U.out,aH (.inl H2.out)];rfl,ZG Y (acd A) _ _ _ _⟩
  ·have h2z:((o:Int) == 2)=false:=by rw[af];omega
   have H2:=aT h2;clear h2;by_cases h3:o=3
   ·have h3z:((o:Int) == 3)=true:=by rw[ahc];omega
    have H3:=aT h3;clear h3;go_wp2_with fail;refine aaf (Zu rfl (ZH I _ _ _ _) rfl) rfl ?_;exact⟨by rw[<-D.out];unfold Zk;rw[aH U.out,aH (.inr H3.out)];rfl,ZG Y (acd A) _ _ _ _⟩
   ·have h3z:((o:Int) == 3)=false:=by rw[af];omega
    have H3:=aT h3;clear h3;go_wp2_with fail;refine aaf (Zu rfl (ZH I _ _ _ _) rfl) rfl ?_;exact⟨by rw[<-D.out];unfold Zk;rw[aH U.out,aN (λe=>e.elim H2.out H3.out)];rfl,ZG Y (acd A) _ _ _ _⟩
 ·have U:=aT hb;have hbz:¬(4294967295:Int)<(v:Int):=by unfold Vb at hb;omega
  clear hb;by_cases h7:o=7
  ·have h7z:((o:Int) != 7)=false:=by simp;omega
   have H7:=aT h7;clear h7;have hand:bits .and .u64 (m:Int) 4294967295=((m%Vb:Nat):Int):=by rw[and_low32 _ jO (by unfold YO at hm;omega)];unfold Vb;omega
   by_cases Z:m%Vb=0
   ·have mi:(((m%Vb:Nat):Int) == 0)=true:=by rw[Z];rfl
    have HE:Hid (S=.always):=by show S=_;rw[<-D.out];unfold Zk;rw[aN U.out,aN (λe=>e H7.out),aH Z]
    clear D Z;have T:=aT (HP.set 2 (.int .u64 ((m%Vb:Nat):Int)));have C:=aT (I.other (show R≠w.heap.size from jO) 2 (.int .u64 ((m%Vb:Nat):Int)));have J:=aT (Y.setCell (p:=⟨w.heap.size,2,none⟩) (aP _) (.int .u64 ((m%Vb:Nat):Int)));generalize m%Vb=ml at*;go_upto_region 8 with fail;generalize w1.setCell ⟨w.heap.size,2,none⟩ (.int .u64 ml)=w2 at*;obtain⟨⟨p0,p1,p2,p3⟩,_⟩:=Z7 T;obtain⟨⟨r0,r1,r2,r3⟩,f0,f1,f2,f3⟩:=Z7 C;go_wp2_with fail;refine aaf (Zu rfl (ZH C _ _ _ _) rfl) rfl ?_;exact⟨by rw[HE.out];rfl,ZG J (acd A) _ _ _ _⟩
   ·have mi:(((m%Vb:Nat):Int) == 0)=false:=by rw[af];omega
    have HE:Hid (S=.asks ⟨a,o,m%Vb,v⟩):=by show S=_;rw[<-D.out];unfold Zk;rw[aN U.out,aN (λe=>e H7.out),aN Z]
    clear D Z;have T:=aT (HP.set 2 (.int .u64 ((m%Vb:Nat):Int)));have C:=aT (I.other (show R≠w.heap.size from jO) 2 (.int .u64 ((m%Vb:Nat):Int)));have J:=aT (Y.setCell (p:=⟨w.heap.size,2,none⟩) (aP _) (.int .u64 ((m%Vb:Nat):Int)));generalize m%Vb=ml at*;go_upto_region 8 with fail;generalize w1.setCell ⟨w.heap.size,2,none⟩ (.int .u64 ml)=w2 at*;obtain⟨⟨p0,p1,p2,p3⟩,_⟩:=Z7 T;obtain⟨⟨r0,r1,r2,r3⟩,f0,f1,f2,f3⟩:=Z7 C;go_wp2_with fail;refine aaf (Zu rfl (ZH C _ _ _ _) rfl) rfl ?_;exact⟨by rw[HE.out];rfl,ZG J (acd A) _ _ _ _⟩
  ·have h7z:((o:Int) != 7)=true:=by simp;omega
   have H7:=aT h7;clear h7;go_wp2_with fail;refine aaf (Zu rfl (ZH I _ _ _ _) rfl) rfl ?_;exact⟨by rw[<-D.out];unfold Zk;rw[aN U.out,aH H7.out];rfl,ZG Y (acd A) _ _ _ _⟩
end Go.Proofs.YtclgigmgbebhgaaGreatDoor
namespace Go.Proofs.YtclgigmgbebhgaaGreatDoor.Zj
open Tryz
open Go Go.Proofs Go.RowKit
def X8(k:Int):ByteArray:=if k=1 then⟨#[61,61]⟩ else if k=2 then⟨#[33,61]⟩ else if k=3 then⟨#[60]⟩ else if k=4 then⟨#[60,61]⟩ else if k=5 then⟨#[62]⟩ else if k=6 then⟨#[62,61]⟩ else if k=7 then⟨#[38]⟩ else⟨#[]⟩
def GN:Array Value:=#[.string ⟨#[61,61]⟩,.func (.func 68) #[] #[],.string ⟨#[33,61]⟩,.func (.func 69) #[] #[],.string ⟨#[60]⟩,.func (.func 70) #[] #[],.string ⟨#[60,61]⟩,.func (.func 71) #[] #[],.string ⟨#[62]⟩,.func (.func 72) #[] #[],.string ⟨#[62,61]⟩,.func (.func 73) #[] #[],.string ⟨#[38]⟩,.func (.func 74) #[] #[]]
def X4(a o m:Int):Bool:=decide (0<=a/\a<=5/\1<=o/\o<=7/\(o=7\/m=0))
theorem lL(w:World):Calls prog 33 #[] w λe w'=>e=.returned (.slice (some ⟨w.heap.size,0,none⟩) 7 7)/\w.alloc (.cells GN 104)=w':=by
 go_enter func33,ntmps33;go_wp2;go_ret;exact⟨rfl,rfl⟩
theorem VU{a o m:Int}(h:¬(0<=a/\a<=5/\1<=o/\o<=7/\(o=7\/m=0))):X4 a o m=false:=aee h
theorem XQ(a o m v:Int)(w:World):Calls prog 32 #[.agg #[.int .i64 a,.int .i64 o,.int .u64 m,.int .u64 v]] w λe w'=>e=.returned (.bool (X4 a o m))/\Below w.heap.size w w':=by
 have D:=Z8.new w 68 #[.int .i64 a,.int .i64 o,.int .u64 m,.int .u64 v];have c0:=D.cell 0;have c1:=D.cell 1;have U:=D.cell 2;simp only[ak,aL,aF] at c0 c1 U;have A:=aT ((aG _ w).alloc (aP _) (.cells #[.int .i64 a,.int .i64 o,.int .u64 m,.int .u64 v] 68));clear D;by_cases a0:0<=a
 case neg=>
  have hr:=VU (a:=a) (o:=o) (m:=m) (λh=>jO);rw[hr];clear hr;go_enter func32,ntmps32;go_wp2;go_ret;exact⟨rfl,A⟩
 by_cases I:a<=5
 case neg=>
  have hr:=VU (a:=a) (o:=o) (m:=m) (λh=>jO);rw[hr];clear hr;go_enter func32,ntmps32;go_wp2;go_ret;exact⟨rfl,A⟩
 by_cases T:1<=o
 case neg=>
  have hr:=VU (a:=a) (o:=o) (m:=m) (λh=>jO);rw[hr];clear hr;go_enter func32,ntmps32;go_wp2;go_ret;exact⟨rfl,A⟩
 by_cases J:o<=7
 case neg=>
  have hr:=VU (a:=a) (o:=o) (m:=m) (λh=>jO);rw[hr];clear hr;go_enter func32,ntmps32;go_wp2;go_ret;exact⟨rfl,A⟩
 by_cases C:o=7;·subst C;have hr:X4 a 7 m=true:=ace ⟨a0,I,jD,jD,.inl rfl⟩;rw[hr];clear hr;go_enter func32,ntmps32;go_wp2;go_ret;exact⟨rfl,A⟩
 ·have q7:(o == 7)=false:=by simpa using C
  by_cases m0:m=0;·subst m0;have hr:X4 a o 0=true:=ace ⟨a0,I,T,J,.inr rfl⟩;rw[hr];clear hr C;go_enter func32,ntmps32;go_wp2;go_ret;exact⟨rfl,A⟩
  ·have Y:(m == 0)=false:=by simpa using m0
   have hr:=VU (a:=a) (o:=o) (m:=m) (λh=>jO);rw[hr];clear hr C m0;go_enter func32,ntmps32;go_wp2;go_ret;exact⟨rfl,A⟩
end Go.Proofs.YtclgigmgbebhgaaGreatDoor.Zj
