/- TopFirst: part 37: PolIn PolOf PolRight TopLw2 TopLw3 TopLw5. -/
import Derived.Test.YtclgigmgbebhgaaGreatDoorF36
set_option linter.unusedVariables false
set_option linter.unusedSimpArgs false
set_option maxRecDepth 100000
set_option maxHeartbeats 16000000
namespace Go.Proofs.YtclgigmgbebhgaaGreatDoor.ZX
open Tryz
open Go Go.Proofs Go.RowKit
variable {N M q:Nat} {W W':World}
def U0(N:Nat)(W:World)(ua:Option Addr)(cs:List YO):Prop:=
 ∀(k:Nat) (c:YO),cs[k]? =some c->∃gu off,ua=some ⟨gu,off,none⟩/\gu<N/\W.cell? ⟨gu,off+k*4,none⟩=some (.int .i64 c.a)/\W.cell? ⟨gu,off+k*4+1,none⟩=some (.int .i64 c.o)/\W.cell? ⟨gu,off+k*4+2,none⟩=some (.int .u64 c.m)/\W.cell? ⟨gu,off+k*4+3,none⟩=some (.int .u64 c.v)
def VV(N:Nat)(W:World)(v:Value)(rs:List Zo):Prop:=
 ∃a c,v=.slice a rs.length c/\∀(i:Nat) (r:Zo),rs[i]? =some r->∃g off ua uc,a=some ⟨g,off,none⟩/\g<N/\W.cell? ⟨g,off+i*4,none⟩=some (.string r.name)/\W.cell? ⟨g,off+i*4+1,none⟩=some (.int .i64 r.k)/\W.cell? ⟨g,off+i*4+2,none⟩=some (.int .i64 r.n)/\W.cell? ⟨g,off+i*4+3,none⟩=some (.slice ua r.conds.length uc)/\U0 N W ua r.conds
theorem U0.below{ua:Option Addr}{cs:List YO}(h:U0 N W ua cs)(hb:Below M W W')(hN:N<=M):U0 N W' ua cs:=by
 intro k c hk;obtain⟨C,off,e,hl,U,T,J,I⟩:=h k c hk;have D:∀j v,W.cell? ⟨C,j,none⟩=some v->W'.cell? ⟨C,j,none⟩=some v:=λj v hv=>(hb.cell (p:=⟨C,j,none⟩) (adg hl hN)).trans hv
 exact⟨C,off,e,hl,D _ _ U,D _ _ T,D _ _ J,D _ _ I⟩
theorem VV.below{v:Value}{rs:List Zo}(h:VV N W v rs)(hb:Below M W W')(hN:N<=M):VV N W' v rs:=by
 obtain⟨a,c,h1,I⟩:=h;refine⟨a,c,h1,λi r hr=> ?_⟩;obtain⟨g,off,ua,uc,e,D,J,Z,Y,T,U⟩:=I i r hr;have C:∀j v,W.cell? ⟨g,j,none⟩=some v->W'.cell? ⟨g,j,none⟩=some v:=λj v hv=>(hb.cell (p:=⟨g,j,none⟩) (adg D hN)).trans hv
 exact⟨g,off,ua,uc,e,D,C _ _ J,C _ _ Z,C _ _ Y,C _ _ T,U.below hb hN⟩
theorem VN.toI{ua:Option Addr}{cs:List YO}(h:VN N W ua cs):U0 N W ua cs:=by
 intro k c hk;obtain⟨C,e,hl,T,J,I,D⟩:=h k c hk;refine⟨C,0,e,hl,?_,?_,?_,?_⟩<;>rw[ade]<;>assumption
theorem Zg.toI{tr tc lo:Nat} {v:Value}{rs:List Zo}(h:Zg tr tc lo W v rs):VV W.heap.size W v rs:=by
 obtain⟨a,c,rfl⟩:=h.slice;refine⟨a,c,rfl,λi r hr=> ?_⟩;obtain⟨g,ua,uc,e,C,I,U,T,J,D⟩:=CN h hr;refine⟨g,0,ua,uc,e,C,?_,?_,?_,?_,D.toI⟩<;>rw[ade]<;>assumption
abbrev Xw:Nat:=51
def xW(b:Bool)(w:World)(e:Ending)(w':World):Prop:=∃z:Int,e=.returned (.int .i64 z)/\(decide (0<=z)= !b)/\Below w.heap.size w w'
theorem CM{α:Type}{p:α->Bool}{l:List α} {x:α}(h:(l.take q).all p=true)(hx:l[q]? =some x)(hp:p x=true):(l.take (q+1)).all p=true:=by
 rw[afd,hx,List.all_append,h];simp[hp]
theorem xV{α:Type}{p:α->Bool}{l:List α} {x:α}(hx:l[q]? =some x)(hp:p x=false):l.all p=false:=by
 rw[List.all_eq_false];exact⟨x,ag hx,by rw[hp];decide⟩
theorem IX(c:YO)(w:World):
 Calls prog 205 #[.agg #[.int .i64 c.a,.int .i64 c.o,.int .u64 c.m,.int .u64 c.v]] w λe w'=>e=.returned (.bool (!XJ c))/\Below w.heap.size w w':=by
 have D:=aT (λW=>ZJ.X0 c.a c.o c.m c.v W);unfold XJ;go_enter func205,ntmps205
 go_wp2_with (go_at_call 32;refine(D _).mono ?_;rintro e I ⟨rfl,C⟩)
 go_ret;exact⟨rfl,((aG _ w).alloc (aR _) _).trans (C.mono jS)⟩
theorem FJ {ua:Option Addr}{uc:Nat}{cs:List YO}(hl:cs.length<=1000000)(w:World)(hN:N<=w.heap.size)(h:VN N w ua cs):
 Calls prog 130 #[.slice ua cs.length uc,.func (.func 205) #[] #[]] w (xW (cs.all XJ) w):=by
 obtain⟨L,hL⟩:=jX cs.length;rw[hL] at hl ⊢;have HL:=aT hL;have HC:=aT h;have HN:=aT hN;clear h hL hN;go_enter func130,ntmps130;go_upto_region 2 with fail;go_loopg [5,8] (L+1) (λgg _ iv wr=>∃q:Nat,q<=L/\L-q<gg/\iv=.int .i64 (q:Int)/\Hid ((cs.take q).all XJ=true)/\Hid (Below w.heap.size w wr));case atStart=>exact⟨0,abd _,jO,rfl,(by show _=_;rfl),aG _ _⟩
 case round=>
  obtain⟨q,hqL,Vs,rfl,HT,Z⟩:=hrel;have q0:=jZ q;by_cases hq:q<L
  ·have lq:(q:Int)<(L:Int):=by omega
   obtain⟨c,hc⟩:∃c,cs[q]? =some c:=⟨_,aL (by rw[HL.out];exact hq)⟩;obtain⟨gu,rfl,DX,y0,y1,y2,y3⟩:=HC q c hc;have U:gu<w.heap.size:=adg DX HN;have T:∀j v,w.cell? ⟨gu,j,none⟩=some v->wr.cell? ⟨gu,j,none⟩=some v:=λj v hv=>(Z.cell (p:=⟨gu,j,none⟩) U).trans hv
   have y0:=T _ _ y0;have y1:=T _ _ y1;have y2:=T _ _ y2;have y3:=T _ _ y3;have I:=aT (IX c wr);cases C:XJ c with
   |true=>
    have Tp:=aT (CM HT hc C);rw[C] at I;clear T hc C;go_wp2_with fail;refine I.mono ?_;rintro e w1 ⟨rfl,D⟩;have J:=NF Z D;clear D y0 y1 y2 y3;go_wp2;go_roundg (L-q);case measure=>omega
    case rel=>exact⟨q+1,jO,jO,by go_num,Tp,J⟩
   |false=>
    have HF:=aT (xV hc C);rw[C] at I;clear T hc C;go_wp2_with fail;refine I.mono ?_;rintro e w1 ⟨rfl,D⟩;have J:=NF Z D;clear D y0 y1 y2 y3;go_wp2;go_ret;exact⟨_,rfl,by rw[HF.out];exact acb q0,J⟩
  ·obtain rfl:L=q:=by omega
   have lq:¬(L:Int)<(L:Int):=jO;have Y:Hid (cs.all XJ=true):=by have h:=HT.out;rwa [abe (by rw[HL.out];exact aR _)] at h
   go_wp2;go_ret;exact⟨_,rfl,by rw[Y.out];decide,Z⟩
theorem FI {ua:Option Addr}{uc:Nat}{cs:List YO}(hl:cs.length<=1000000)(w:World)(hN:N<=w.heap.size)(h:VN N w ua cs):
 Calls prog 79 #[.slice ua cs.length uc,.func (.func 205) #[] #[]] w λe w'=>e=.returned (.bool (!cs.all XJ))/\Below w.heap.size w w':=by
 have J:=aT (FJ (uc:=uc) hl w hN h);generalize cs.all XJ=b at*;generalize cs.length=L at*;clear h hN;go_enter func79,ntmps79;go_wp2_with fail;refine J.mono ?_;rintro e T ⟨z,rfl,hz,C⟩;have D:=aT C;have hz:decide ((0:Int)<=z)= !b:=hz;have I:=aT hz;clear C J;go_wp2;go_ret;exact⟨by first|rw[I.out]|rw[<-I.out];simp,D⟩
theorem and_true(b:Bool):(b&&true)=b:=by cases b<;>rfl
theorem IW{N:Nat}{r:Zo}{ua:Option Addr}{uc:Nat}(hs:r.name.size<=1000000)(hl:r.conds.length<=1000000)(w:World)(hN:N<=w.heap.size)(h:VN N w ua r.conds):
 Calls prog 126 #[.agg #[.string r.name,.int .i64 r.k,.int .i64 r.n,.slice ua r.conds.length uc]] w λe w'=>e=.returned (.bool (Wh r))/\Below w.heap.size w w':=by
 obtain⟨nm,k,n,cs⟩:=r;dsimp only at hs hl h ⊢;unfold Wh;dsimp only;have I:=aT (λW=>zX nm hs W);have Z:=aT (λW=>Yk.X0 k n W);have xz:=aT (λW (hb:Below w.heap.size w W)=>FI (N:=N) (uc:=uc) hl W (aO hN hb.size) (h.below hb hN));generalize hA:cs.all XJ=ba at*;generalize cs.length=L at*;have hX:=Z7.new w iY #[.string nm,.int .i64 k,.int .i64 n,.slice ua L uc];have HX:=aT hX;have HB:=aT ((aG w.heap.size w).alloc (aR _) (.cells #[.string nm,.int .i64 k,.int .i64 n,.slice ua L uc] iY));clear h hN hX hA hs;cases T:R3 nm with
 |false=>
  rw[T] at I;clear T;go_enter func126,ntmps126
  go_wp2_with (go_at_call 204;refine(I _).mono ?_;rintro e w1 ⟨rfl,C⟩)
  go_ret;exact⟨rfl,(NF HB C)⟩
 |true=>
  rw[T] at I;clear T;cases Y:Yk.Zu k n with
  |false=>
   rw[Y] at Z;clear Y;go_enter func126,ntmps126;go_wp2_with fail;refine(I _).mono ?_;rintro e w1 ⟨rfl,C⟩;have D:=GW HX C;have VE:=NF HB C;have a1:=D.cell 1;have a2:=D.cell 2;simp only[au,aM,aH] at a1 a2;clear C HX HB
   go_wp2_with (go_at_call 123;refine(Z _).mono ?_;rintro e w2 ⟨rfl,J⟩)
   go_ret;exact⟨rfl,(NF VE J)⟩
  |true=>
   rw[Y] at Z;clear Y;go_enter func126,ntmps126;go_wp2_with fail;refine(I _).mono ?_;rintro e w1 ⟨rfl,C⟩;have D:=GW HX C;have VE:=NF HB C;have a1:=D.cell 1;have a2:=D.cell 2;simp only[au,aM,aH] at a1 a2;clear C HX HB;go_wp2_with fail;refine(Z _).mono ?_;rintro e w2 ⟨rfl,J⟩;have xh:=GW D J;have U:=NF VE J;have a3:=xh.cell 3;simp only[au,aM,aH] at a3;clear J D VE a1 a2;by_cases h6:L<=6
   ·have h6z:(L:Int)<=6:=by omega
    have e6:decide (L<=6)=true:=acb h6;have e6z:decide ((L:Int)<=6)=true:=acb h6z;go_wp2_with fail;refine(xz _ U).mono ?_;rintro e w3 ⟨rfl,hb3⟩;have Uy:=NF U hb3;clear hb3 xh U a3;go_wp2;go_ret;exact⟨by rw[e6];cases ba<;>rfl,Uy⟩
   ·have h6z:¬(L:Int)<=6:=by omega
    have e6:decide (L<=6)=false:=aeg h6;have e6z:decide ((L:Int)<=6)=false:=aeg h6z;go_wp2;go_ret;exact⟨by rw[e6];rfl,U⟩
theorem IV {r:Zo}{ua:Option Addr}{uc:Nat}(hs:r.name.size<=1000000)(hl:r.conds.length<=1000000)(w:World)(hN:N<=w.heap.size)(h:VN N w ua r.conds):
 Calls prog 125 #[.agg #[.string r.name,.int .i64 r.k,.int .i64 r.n,.slice ua r.conds.length uc]] w λe w'=>e=.returned (.bool (!Wh r))/\Below w.heap.size w w':=by
 have D:=aT ((aG w.heap.size w).alloc (aR _) (.cells #[.string r.name,.int .i64 r.k,.int .i64 r.n,.slice ua r.conds.length uc] iY));have J:=aT (IW (uc:=uc) hs hl _ (aO hN D.size) (h.below D hN));clear h hN;generalize Wh r=b at*;go_enter func125,ntmps125;go_wp2_with fail;refine J.mono ?_;rintro e T ⟨rfl,C⟩;have I:=NF D C;clear C D J;go_wp2;go_ret;exact⟨rfl,I⟩
theorem FH{lo:Nat}{v:Value}{rs:List Zo}(hl:rs.length<=1000000)(hc:∀r∈rs,r.name.size<=1000000/\r.conds.length<=1000000)(w:World)(h:Zg iY TCd lo w v rs):
 Calls prog 83 #[v,.func (.func 125) #[] #[]] w (xW (rs.all Wh) w):=by
 obtain⟨a,c,rfl⟩:=h.slice;obtain⟨L,hL⟩:=jX rs.length;rw[hL] at hl h ⊢;have HL:=aT hL;have HR:=aT h;have HCD:=aT hc;clear h hL hc;go_enter func83,ntmps83;go_upto_region 2 with fail;go_loopg [5,8] (L+1) (λgg _ iv wr=>∃q:Nat,q<=L/\L-q<gg/\iv=.int .i64 (q:Int)/\Hid ((rs.take q).all Wh=true)/\Hid (Below w.heap.size w wr));case atStart=>exact⟨0,abd _,jO,rfl,(by show _=_;rfl),aG _ _⟩
 case round=>
  obtain⟨q,hqL,Vs,rfl,HT,Z⟩:=hrel;have q0:=jZ q;by_cases hq:q<L
  ·have lq:(q:Int)<(L:Int):=by omega
   obtain⟨r,hr⟩:∃r,rs[q]? =some r:=⟨_,aL (by rw[HL.out];exact hq)⟩;obtain⟨g1,ua1,uc1,rfl,hg1,y0,y1,y2,y3,J⟩:=CN HR hr;have ce:∀j v,w.cell? ⟨g1,j,none⟩=some v->wr.cell? ⟨g1,j,none⟩=some v:=λj v hv=>(Z.cell (p:=⟨g1,j,none⟩) hg1).trans hv
   have y0:=ce _ _ y0;have y1:=ce _ _ y1;have y2:=ce _ _ y2;have y3:=ce _ _ y3;obtain⟨Y,T⟩:=HCD r (ag hr);have I:=aT (IV (N:=w.heap.size) (r:=r) (ua:=ua1) (uc:=uc1) Y T wr Z.size (J.below Z (aR _)));cases C:Wh r with
   |true=>
    have Tp:=aT (CM HT hr C);rw[C] at I;clear ce hr C J Y T;go_wp2_with fail;refine I.mono ?_;rintro e w1 ⟨rfl,D⟩;have U:=NF Z D;clear D y0 y1 y2 y3;go_wp2;go_roundg (L-q);case measure=>omega
    case rel=>exact⟨q+1,jO,jO,by go_num,Tp,U⟩
   |false=>
    have HF:=aT (xV hr C);rw[C] at I;clear ce hr C J Y T;go_wp2_with fail;refine I.mono ?_;rintro e w1 ⟨rfl,D⟩;have U:=NF Z D;clear D y0 y1 y2 y3;go_wp2;go_ret;exact⟨_,rfl,by rw[HF.out];exact acb q0,U⟩
  ·obtain rfl:L=q:=by omega
   have lq:¬(L:Int)<(L:Int):=jO;have ac7:Hid (rs.all Wh=true):=by have h:=HT.out;rwa [abe (by rw[HL.out];exact aR _)] at h
   go_wp2;go_ret;exact⟨_,rfl,by rw[ac7.out];decide,Z⟩
theorem FE{lo:Nat}{v:Value}{rs:List Zo}(hl:rs.length<=1000000)(hc:∀r∈rs,r.name.size<=1000000/\r.conds.length<=1000000)(w:World)(h:Zg iY TCd lo w v rs):
 Calls prog 124 #[v,.func (.func 125) #[] #[]] w λe w'=>e=.returned (.bool (!rs.all Wh))/\Below w.heap.size w w':=by
 have J:=aT (FH hl hc w h);obtain⟨a,c,rfl⟩:=h.slice;generalize rs.all Wh=b at*;generalize rs.length=L at*;clear h hc;go_enter func124,ntmps124;go_wp2_with fail;refine J.mono ?_;rintro e T ⟨z,rfl,hz,C⟩;have D:=aT C;have hz:decide ((0:Int)<=z)= !b:=hz;have I:=aT hz;clear C J;go_wp2;go_ret;exact⟨by first|rw[I.out]|rw[<-I.out];simp,D⟩
def Small(p:PSt):Prop:=p.rules.length<=1000000/\∀r∈p.rules,r.name.size<=1000000/\r.conds.length<=1000000
theorem JC{p:PSt}{v:Value}{lo:Nat}(hs:Small p)(w:World)(h:Zg iY TCd lo w v p.rules):
 Calls prog 75 #[ao3 p.k p.n p.x v] w λe w'=>e=.returned (.bool (CT p))/\Below w.heap.size w w':=by
 obtain⟨k,n,x,rs⟩:=p;obtain⟨a,c,rfl⟩:=h.slice;obtain⟨hs1,T⟩:=hs;dsimp only at hs1 T h ⊢;unfold CT ao3;dsimp only;have J:=aT (λW=>Yk.X0 k n W);have xz:=aT (λW (hb:Below w.heap.size w W)=>FE hs1 T W (h.below hb));generalize hA:rs.all Wh=ba at*;generalize rs.length=L at*;have HX:=aT (Z7.new w Xw #[.int .i64 k,.int .i64 n,.bool x,.slice a L c]);have HB:=aT ((aG w.heap.size w).alloc (aR _) (.cells #[.int .i64 k,.int .i64 n,.bool x,.slice a L c] Xw));clear h hA T;cases I:Yk.Zu k n with
 |false=>
  rw[I] at J;clear I;go_enter func75,ntmps75
  go_wp2_with (go_at_call 123;refine(J _).mono ?_;rintro e w2 ⟨rfl,C⟩)
  go_ret;exact⟨rfl,(NF HB C)⟩
 |true=>
  rw[I] at J;clear I;go_enter func75,ntmps75;go_wp2_with fail;refine(J _).mono ?_;rintro e w2 ⟨rfl,C⟩;have Y:=GW HX C;have D:=NF HB C;have a3:=Y.cell 3;simp only[au,aM,aH] at a3;clear C HX HB;by_cases h6:L<=500
  ·have U:(L:Int)<=500:=by omega
   have e6:decide (L<=500)=true:=acb h6;have e6z:decide ((L:Int)<=500)=true:=acb U;go_wp2_with fail;refine(xz _ D).mono ?_;rintro e w3 ⟨rfl,Z⟩;have Uy:=NF D Z;clear Z Y D a3;go_wp2;go_ret;exact⟨by rw[e6];cases ba<;>rfl,Uy⟩
  ·have U:¬(L:Int)<=500:=by omega
   have e6:decide (L<=500)=false:=aeg h6;have e6z:decide ((L:Int)<=500)=false:=aeg U;go_wp2;go_ret;exact⟨by rw[e6];rfl,D⟩
end Go.Proofs.YtclgigmgbebhgaaGreatDoor.ZX
namespace Go.Proofs.YtclgigmgbebhgaaGreatDoor
open Tryz
open Go Go.Proofs Go.RowKit
variable {N K:Nat} {W:World}
@[go_sem] abbrev oz:Oper:=⟨some 23,.load 89 (.tmp 22),89,"top.go:29",#[⟨0,.data⟩],none⟩
@[go_sem] abbrev eF:Oper:=⟨some 29,.call {callee:=.value (.func 19),args:=#[.tmp 28],argTypes:=#[27]},68,"top.go:29",#[⟨6,.data⟩],none⟩
@[go_sem] abbrev oy:Oper:=⟨some 30,.buildSlice 89 1 #[(0,.tmp 29)],89,"top.go:29",#[⟨7,.data⟩],none⟩
abbrev zT:Nat:=34
structure RuL(s X:Nat)(w:World)(rc xc:Array Value)(cs:List ZX.YO)(u:Value)(q:Nat)(W:World):Prop where
 rb:Z7 W s zT rc
 zb:Z7 W (s+1) TR #[.string ⟨#[]⟩,.int .i64 0,.int .i64 0,.slice none 0 0]
 xb:Z7 W X TR xc
 row:W.ownsRow (X+1) TC 4 u q (ZX.We (cs.take q))
 Zr:Below s w W
 hX:X=s+1+1
section
variable {s X q:Nat} {w W W':World} {rc xc:Array Value} {cs:List ZX.YO} {u:Value}
theorem RuL.to(h:RuL s X w rc xc cs u q W)(hb:Below W.heap.size W W'):RuL s X w rc xc cs u q W':=
 ⟨h.rb.below hb h.rb.lt,h.zb.below hb h.zb.lt,h.xb.below hb h.xb.lt,ZC h.row hb,h.Zr.trans (hb.mono (acf h.rb.lt)),h.hX⟩
end
theorem uo {nm:ByteArray}{k n:Int}{ua:Option Addr}{uc:Nat}{cs:List ZX.YO}(D:cs.length=K)(hl:K<=1000000)(w:World)(hN:N<=w.heap.size)(h:ZX.U0 N w ua cs):
 Calls prog 28 #[.agg #[.string nm,.int .i64 k,.int .i64 n,.slice ua K uc]] w λe w'=>∃u,e=.returned (.agg #[.string nm,.int .i64 k,.int .i64 n,u])/\w'.ownsRow w.heap.size TC 4 u K (ZX.We cs)/\Below w.heap.size w w':=by
 have HK:=aT D;have HC:=aT h;obtain⟨i0,XS,RH,Vb,Tl⟩:=Pq Gf;obtain⟨w1,I1⟩:∃z,w.alloc (.cells #[.string nm,.int .i64 k,.int .i64 n,.slice ua K uc] zT)=z:=⟨_,rfl⟩;obtain⟨w2,hw2⟩:∃z,w1.alloc (.cells #[.string ⟨#[]⟩,.int .i64 0,.int .i64 0,.slice none 0 0] TR)=z:=⟨_,rfl⟩;obtain⟨w3,hw3⟩:∃z,w2.alloc (.cells #[.string nm,.int .i64 k,.int .i64 n,.slice none 0 0] TR)=z:=⟨_,rfl⟩;have s1:w1.heap.size=w.heap.size+1:=by rw[<-I1,aj]
 have s2:w2.heap.size=w.heap.size+1+1:=by rw[<-hw2,aj,s1]
 have Fk:Hid (RuL w.heap.size (w.heap.size+1+1) w #[.string nm,.int .i64 k,.int .i64 n,.slice ua K uc] #[.string nm,.int .i64 k,.int .i64 n,.slice none 0 0] cs (.slice none 0 0) 0 w3):=by
  have b3:Below w2.heap.size w2 w3:=by rw[<-hw3];exact Yx w2 _
  have b2:Below w1.heap.size w1 w3:=by
   have:Below w1.heap.size w1 w2:=by rw[<-hw2];exact Yx w1 _
   exact this.trans (b3.mono this.size)
  have b1:Below w.heap.size w w3:=by
   have:Below w.heap.size w w1:=by rw[<-I1];exact Yx w _
   exact this.trans (b2.mono this.size)
  have B0:Z7 w3 w.heap.size zT #[.string nm,.int .i64 k,.int .i64 n,.slice ua K uc]:=(by rw[<-I1];exact Z7.new w _ _:Z7 w1 w.heap.size zT #[.string nm,.int .i64 k,.int .i64 n,.slice ua K uc]).below b2 jO;have B1:Z7 w3 w1.heap.size TR #[.string ⟨#[]⟩,.int .i64 0,.int .i64 0,.slice none 0 0]:=(by rw[<-hw2];exact Z7.new w1 _ _:Z7 w2 w1.heap.size TR #[.string ⟨#[]⟩,.int .i64 0,.int .i64 0,.slice none 0 0]).below b3 jO;have B2:Z7 w3 w2.heap.size TR #[.string nm,.int .i64 k,.int .i64 n,.slice none 0 0]:=by rw[<-hw3];exact Z7.new w2 _ _
  rw[s1] at B1;rw[s2] at B2;exact⟨B0,B1,B2,Ya _ _ _ _,b1,rfl⟩
 have HW:=aT (And.intro I1 (And.intro hw2 hw3));clear D h I1 hw2 hw3 s1 s2;go_enter func28,ntmps28;go_upto_region 3 with fail;rw[HW.out.1,HW.out.2.1,HW.out.2.2];clear HW;obtain⟨X,hX⟩:=jX (w.heap.size+1+1);rw[hX] at Fk ⊢;have HXe:=aT hX;have hsX:w.heap.size<X:=jO;clear hX;go_loopg [4] (K+1) (λgg s4 wr=>∃(q:Nat) (u:Value),q<=K/\K-q<gg/\s4=.int .i64 (q:Int)/\Hid (RuL w.heap.size X w #[.string nm,.int .i64 k,.int .i64 n,.slice ua K uc] #[.string nm,.int .i64 k,.int .i64 n,u] cs u q wr));case atStart=>exact⟨0,_,abd _,jO,rfl,Fk⟩
 case round=>
  obtain⟨q,u,hqK,Vs,rfl,Z⟩:=hrel;clear Fk;have q0':=jZ q;obtain⟨⟨b0,b1,b2,b3⟩,_⟩:=Z8 Z.rb;obtain⟨xa,xc,rfl⟩:=Z0 Z.row;by_cases hlt:q<K
  ·have Zd:(q:Int)<(K:Int):=by omega
   have kR:=jW q;obtain⟨⟨A,O,M2,V⟩,hc⟩:∃c,cs[q]? =some c:=⟨_,aL (by rw[HK.out];exact hlt)⟩;obtain⟨U,off,rfl,DX,c0,c1,c2,c3⟩:=HC q _ hc;dsimp only at c0 c1 c2 c3;have fW:U<w.heap.size:=adg DX hN;have vY:Hid (ZX.We (cs.take (q+1))=ZX.We (cs.take q)++[.int .i64 A,.int .i64 O,.int .u64 M2,.int .u64 V]):=by show _=_;rw[afd,hc];exact ZX.zW _ _
   have T:Hid (∀W:World,Below X wr W->W.cell? ⟨w.heap.size,3,none⟩=some (.slice (some ⟨U,off,none⟩) K uc)/\W.cell? ⟨U,off+q*4,none⟩=some (.int .i64 A)/\W.cell? ⟨U,off+q*4+1,none⟩=some (.int .i64 O)/\W.cell? ⟨U,off+q*4+2,none⟩=some (.int .u64 M2)/\W.cell? ⟨U,off+q*4+3,none⟩=some (.int .u64 V)):=λW hW=>by
    have ce:∀j v,w.cell? ⟨U,j,none⟩=some v->W.cell? ⟨U,j,none⟩=some v:=λj v hv=>(hW.cell (p:=⟨U,j,none⟩) (show U<X from jO)).trans ((Z.Zr.cell (p:=⟨U,j,none⟩) fW).trans hv)
    exact⟨(hW.cell (p:=⟨w.heap.size,3,none⟩) hsX).trans b3,ce _ _ c0,ce _ _ c1,ce _ _ c2,ce _ _ c3⟩
   have mJ:=aT (λW=>JI A O M2 V W);have iX:X<wr.heap.size:=Z.xb.lt;have kd:Below X wr wr.drew:=(aG X wr).drew;have x3:wr.cell? ⟨X,3,none⟩=some (.slice xa q xc):=Z.xb.cell 3;clear c0 c1 c2 c3 hc b0 b1 b2;go_upto_region 5 with fail;refine akg (S:=λw'=>w'.cell? ⟨w.heap.size,3,none⟩=some (.slice (some ⟨U,off,none⟩) K uc)/\w'.cell? ⟨U,off+q*4,none⟩=some (.int .i64 A)/\w'.cell? ⟨U,off+q*4+1,none⟩=some (.int .i64 O)/\w'.cell? ⟨U,off+q*4+2,none⟩=some (.int .u64 M2)/\w'.cell? ⟨U,off+q*4+3,none⟩=some (.int .u64 V)) jK (T _ (by first|(with_reducible assumption)|(with_reducible exact kd))) (λhHeld=> ?_);refine jT 0 ⟨some 22,.fieldAddr 91 (.tmp 3) 2,0,"top.go:29",#[],none⟩ ?_;try simp only[Act.put,aS,aP,aQ]
   refine jT 2 ⟨some 24,.fieldAddr 34 (.tmp 1) 2,0,"top.go:29",#[],none⟩ ?_;try simp only[Act.put,aS,aP,aQ]
   refine jT 3 ⟨some 25,.load 22 (.tmp 24),22,"top.go:29",#[⟨2,.data⟩],none⟩ ?_;try simp only[Act.put,aS,aP,aQ]
   refine jT 4 ⟨some 26,.move (.tmp 4),3,"top.go:29",#[],none⟩ ?_;try simp only[Act.put,aS,aP,aQ]
   refine jT 5 ⟨some 27,.indexAddr 22 (.tmp 25) (.tmp 26),0,"top.go:29",#[⟨3,.data⟩,⟨4,.data⟩],none⟩ ?_;try simp only[Act.put,aS,aP,aQ]
   refine jT 6 ⟨some 28,.load 27 (.tmp 27),27,"top.go:29",#[⟨5,.data⟩],none⟩ ?_;try simp only[Act.put,aS,aP,aQ]
   refine aba (rs:=[1,7]) jK jS ?_;refine ae (o:=oz) rfl (λI D=> ?ac8) (ae (o:=eF) rfl (λI D=> ?ac9) aae)
   case' ac8=>
    go_simp;refine D _ _ hHeld (λhHeld=> ?_);clear D I;try simp only[Act.put,aS,aP,aQ]
    refine aba (rs:=[7]) jK jS ?_;refine ae (o:=eF) rfl (λI D=> ?aC7) aae;go_simp;refine(mJ _).mono ?_;rintro e Y ⟨rfl,TH⟩;have J:Below wr.heap.size wr Y:=(aG _ wr).drew.trans TH;have k7:Below X wr Y:=J.mono (acf iX);have ox:=J.trans ((Yx Y (.cells #[.int .i64 A,.int .i64 O,.int .u64 M2,.int .u64 V] TC)).mono J.size);have k8:Below X wr (Y.alloc (.cells #[.int .i64 A,.int .i64 O,.int .u64 M2,.int .u64 V] TC)):=ox.mono (acf iX);have C:=aT (Z.to ox);have x7:Y.cell? ⟨X,3,none⟩=some (.slice xa q xc):=(Z.to J).xb.cell 3;have x8:(Y.alloc (.cells #[.int .i64 A,.int .i64 O,.int .u64 M2,.int .u64 V] TC)).cell? ⟨X,3,none⟩=some (.slice xa q xc):=C.xb.cell 3;have hs8:X+1<=(Y.alloc (.cells #[.int .i64 A,.int .i64 O,.int .u64 M2,.int .u64 V] TC)).heap.size:=C.xb.lt;refine D _ _ (T _ (by first|(with_reducible assumption)|(with_reducible exact kd))) (λhHeld=> ?_);clear D I;try simp only[Act.put,aS,aP,aQ]
    refine aba (rs:=[8]) jK jS ?_;refine ae (o:=oy) rfl (λI D=> ?aC8) aae;go_simp;refine D _ _ (T _ (by first|(with_reducible assumption)|(with_reducible exact kd))) (λhHeld=> ?_);clear D I;try simp only[Act.put,aS,aP,aQ]
   case' ac9=>
    go_simp;refine(mJ _).mono ?_;rintro e Y ⟨rfl,TH⟩;have J:Below wr.heap.size wr Y:=(aG _ wr).drew.trans TH;have k7:Below X wr Y:=J.mono (acf iX);have ox:=J.trans ((Yx Y (.cells #[.int .i64 A,.int .i64 O,.int .u64 M2,.int .u64 V] TC)).mono J.size);have k8:Below X wr (Y.alloc (.cells #[.int .i64 A,.int .i64 O,.int .u64 M2,.int .u64 V] TC)):=ox.mono (acf iX);have C:=aT (Z.to ox);have x7:Y.cell? ⟨X,3,none⟩=some (.slice xa q xc):=(Z.to J).xb.cell 3;have x8:(Y.alloc (.cells #[.int .i64 A,.int .i64 O,.int .u64 M2,.int .u64 V] TC)).cell? ⟨X,3,none⟩=some (.slice xa q xc):=C.xb.cell 3;have hs8:X+1<=(Y.alloc (.cells #[.int .i64 A,.int .i64 O,.int .u64 M2,.int .u64 V] TC)).heap.size:=C.xb.lt;refine D _ _ (T _ (by first|(with_reducible assumption)|(with_reducible exact kd))) (λhHeld=> ?_);clear D I;try simp only[Act.put,aS,aP,aQ]
    refine aba (rs:=[1,8]) jK jS ?_;refine ae (o:=oz) rfl (λI D=> ?ad0) (ae (o:=oy) rfl (λI D=> ?ad1) aae)
   case' ad0=>
    go_simp;refine D _ _ hHeld (λhHeld=> ?_);clear D I;try simp only[Act.put,aS,aP,aQ]
    refine aba (rs:=[8]) jK jS ?_;refine ae (o:=oy) rfl (λI D=> ?aC9) aae;go_simp;refine D _ _ (T _ (by first|(with_reducible assumption)|(with_reducible exact kd))) (λhHeld=> ?_);clear D I;try simp only[Act.put,aS,aP,aQ]
   case' ad1=>
    go_simp;refine D _ _ (T _ (by first|(with_reducible assumption)|(with_reducible exact kd))) (λhHeld=> ?_);clear D I;try simp only[Act.put,aS,aP,aQ]
    refine aba (rs:=[1]) jK jS ?_;refine ae (o:=oz) rfl (λI D=> ?aD0) aae;go_simp;refine D _ _ hHeld (λhHeld=> ?_);clear D I;try simp only[Act.put,aS,aP,aQ]
   all_goals (
    refine aba (rs:=[9]) jK jS ?_;refine ae (o:=⟨some 31,.call {callee:=.builtin .append,args:=#[.tmp 23,.tmp 30],argTypes:=#[89,89]},89,"top.go:29",#[⟨1,.data⟩,⟨8,.data⟩,⟨7,.chain⟩],none⟩) rfl (λI D=> ?_) aae;refine step_append_lies _ rfl _ _ 89 rfl (X+1) TC i0 (.agg #[.int .i64 0,.int .i64 0,.int .u64 0,.int .u64 0]) 4 32 underlying89 XS RH Vb Tl rfl jD (.slice xa q xc) q (ZX.We (cs.take q)) rfl C.row ⟨Y.heap.size,0,none⟩ 1 1 [.int .i64 A,.int .i64 O,.int .u64 M2,.int .u64 V] rfl rfl (World.news_of_block (Z7.new Y _ _)) (by simp[Value.oneCell']) jD (by unfold maxLen;omega) jO hs8 _ rfl ?_;intro gb cap w8 Mj Lt Kf kH;have tD:=C.xb.kept Lt (λe=>YV C.row C.xb jD e.symm);have c8:w8.cell? ⟨X,3,none⟩=some (.slice xa q xc):=tD.cell 3;have f8:=tD.frozen 3;have k9:Below X wr w8:=k8.grown Lt (acf hs8) (λk e=>by have:=(C.row.lt k e).1;omega);have pX:=k9.setCell (p:=⟨X,3,none⟩) (aR X) (.slice (some ⟨gb,0,none⟩) (q+1) cap);have DB:=aT Lt;have Ic:=aT Mj;clear Lt Mj Kf tD;refine D _ _ (T _ (by first|(with_reducible assumption)|(with_reducible exact kd))) (λhHeld=> ?_);clear D I;try simp only[Act.put,aS,aP,aQ]
    refine jT 10 ⟨some 32,.fieldAddr 91 (.tmp 3) 2,0,"top.go:29",#[⟨0,.phase⟩,⟨1,.phase⟩,⟨2,.phase⟩,⟨3,.phase⟩,⟨4,.phase⟩,⟨5,.phase⟩,⟨6,.phase⟩,⟨7,.phase⟩,⟨8,.phase⟩,⟨9,.phase⟩],none⟩ ?_;try simp only[Act.put,aS,aP,aQ]
    refine aba (rs:=[11]) jK jS ?_;refine ae (o:=⟨none,.store 89 (.tmp 32) (.tmp 31),0,"top.go:29",#[⟨10,.data⟩,⟨9,.data⟩,⟨9,.chain⟩,⟨0,.phase⟩,⟨1,.phase⟩,⟨2,.phase⟩,⟨3,.phase⟩,⟨4,.phase⟩,⟨5,.phase⟩,⟨6,.phase⟩,⟨7,.phase⟩,⟨8,.phase⟩,⟨9,.phase⟩],none⟩) rfl (λI D=> ?_) aae;go_simp;refine D _ _ (T _ (by first|(with_reducible assumption)|(with_reducible exact kd))) (λhHeld=> ?_);clear D I;try simp only[Act.put,aS,aP,aQ]
    refine ana jK ?_ _)
   all_goals (
    have mX:Hid (RuL w.heap.size X w #[.string nm,.int .i64 k,.int .i64 n,.slice (some ⟨U,off,none⟩) K uc] #[.string nm,.int .i64 k,.int .i64 n,.slice (some ⟨gb,0,none⟩) (q+1) cap] cs (.slice (some ⟨gb,0,none⟩) (q+1) cap) (q+1) (w8.setCell ⟨X,3,none⟩ (.slice (some ⟨gb,0,none⟩) (q+1) cap))):=by have hR8:=C.rb.kept DB (λe=>YV C.row C.rb jD e.symm);have hZ8:=C.zb.kept DB (λe=>YV C.row C.zb jD e.symm);have tD:=C.xb.kept DB (λe=>YV C.row C.xb jD e.symm);have he:=HXe.out;refine⟨hR8.other jO 3 _,hZ8.other jO 3 _,tD.set 3 _,?_,(C.Zr.grown DB (acf C.rb.lt) (λk e=>by have:=(C.row.lt k e).1;omega)).setCell (p:=⟨X,3,none⟩) (acf hsX) _,he.symm⟩;rw[vY.out];exact ZV Ic tD jD 3 _
    clear Z C DB Ic k9 pX k8 k7 c8 f8 x7 x8;go_wp2_with fail;go_roundg (K-q)
    (case measure=>omega)
    (case rel=>exact⟨q+1,_,jO,jO,by go_num,mX⟩))
  ·obtain rfl:q=K:=by omega
   have Zd:¬(q:Int)<(q:Int):=jO;have ou:Hid (cs.take q=cs):=abe (by rw[HK.out];exact aR _);obtain⟨⟨x0,x1,x2,x3⟩,_⟩:=Z8 Z.xb;obtain⟨⟨z0,z1,z2,z3⟩,f0,f1,f2,f3⟩:=Z8 Z.zb;go_wp2_with fail;have hz:=Z.zb;refine aaf (MS rfl (.inr (.inl rfl)) (ZF hz _ _ _ _) rfl) rfl ?_;refine⟨_,rfl,?_,ZE Z.Zr jO _ _ _ _⟩;have hrow:=Z.row;rw[ou.out] at hrow;exact Y7 (ZV (ZV (ZV (ZV hrow hz jD 0 _) (hz.set 0 _) jD 1 _) ((hz.set 0 _).set 1 _) jD 2 _) (((hz.set 0 _).set 1 _).set 2 _) jD 3 _) jO
@[go_sem] abbrev ot:Oper:=⟨some 23,.load 49 (.tmp 22),49,"top.go:20",#[⟨0,.data⟩],none⟩
@[go_sem] abbrev eE:Oper:=⟨some 29,.call {callee:=.value (.func 28),args:=#[.tmp 28],argTypes:=#[34]},91,"top.go:20",#[⟨6,.data⟩],none⟩
@[go_sem] abbrev oq:Oper:=⟨some 30,.buildSlice 49 1 #[(0,.tmp 29)],49,"top.go:20",#[⟨7,.data⟩],none⟩
abbrev TDp:Nat:=37
theorem Sm{lo B t:Nat} {v:Value}{rs:List ZX.Zo}{cs:Array Value}(h:ZX.Zg TR TC lo W v rs)(C:Z7 W B t cs)(T:TR≠t)(I:TC≠t)(j:Nat)(u:Value):ZX.Zg TR TC lo (W.setCell ⟨B,j,none⟩ u) v rs:=by
 obtain⟨us,e1,e2,e3⟩:=h;exact⟨us,e1,ZV e2 C T j u,λD J r hu hr=>ZV (e3 D J r hu hr) C I j u⟩
theorem oo{lo lo':Nat} {v:Value}{rs:List ZX.Zo}(h:ZX.Zg TR TC lo W v rs)(hl:lo'<=lo):ZX.Zg TR TC lo' W v rs:=by
 obtain⟨us,e1,e2,e3⟩:=h;exact⟨us,e1,Y7 e2 hl,λC D r hu hr=>Y7 (e3 C D r hu hr) hl⟩
structure OfL(s X:Nat)(w:World)(pc xc:Array Value)(rs:List ZX.Zo)(u:Value)(q:Nat)(W:World):Prop where
 pb:Z7 W s TDp pc
 zb:Z7 W (s+1) VQ #[.int .i64 0,.int .i64 0,.bool false,.slice none 0 0]
 xb:Z7 W X VQ xc
 row:ZX.Zg TR TC (X+1) W u (rs.take q)
 Zr:Below s w W
 hX:X=s+1+1
section
variable {s X q:Nat} {w W W':World} {pc xc:Array Value} {rs:List ZX.Zo} {u:Value}
theorem OfL.to(h:OfL s X w pc xc rs u q W)(hb:Below W.heap.size W W'):OfL s X w pc xc rs u q W':=
 ⟨h.pb.below hb h.pb.lt,h.zb.below hb h.zb.lt,h.xb.below hb h.xb.lt,h.row.below hb,h.Zr.trans (hb.mono (acf h.pb.lt)),h.hX⟩
end
theorem take_len{α:Type}{l:List α}{q:Nat}(C:l.length=K)(h:q<=K):(l.take q).length=q:=by rw[abg];omega
theorem iW {k n:Int}{x:Bool}{ra:Option Addr}{rc:Nat}{rs:List ZX.Zo}(C:rs.length=K)(hl:K<=1000000)(hcs:∀r∈rs,r.conds.length<=1000000)(w:World)(hN:N<=w.heap.size)(h:ZX.VV N w (.slice ra K rc) rs):
 Calls prog 11 #[.agg #[.int .i64 k,.int .i64 n,.bool x,.slice ra K rc]] w λe w'=>∃u,e=.returned (.agg #[.int .i64 k,.int .i64 n,.bool x,u])/\ZX.Zg TR TC w.heap.size w' u rs/\Below w.heap.size w w':=by
 have HK:=aT C;have HCs:=aT hcs;obtain⟨a',c',he,h⟩:=h;rw[C] at he;obtain⟨rfl,rfl⟩:ra=a'/\rc=c':=by injection he with h1 h2 h3;exact⟨h1,h3⟩
 have HC:=aT h;clear he;obtain⟨i0,XS,RH,Vb,Tl⟩:=Pq rj;obtain⟨w1,I1⟩:∃z,w.alloc (.cells #[.int .i64 k,.int .i64 n,.bool x,.slice ra K rc] TDp)=z:=⟨_,rfl⟩;obtain⟨w2,hw2⟩:∃z,w1.alloc (.cells #[.int .i64 0,.int .i64 0,.bool false,.slice none 0 0] VQ)=z:=⟨_,rfl⟩;obtain⟨w3,hw3⟩:∃z,w2.alloc (.cells #[.int .i64 k,.int .i64 n,.bool x,.slice none 0 0] VQ)=z:=⟨_,rfl⟩;have s1:w1.heap.size=w.heap.size+1:=by rw[<-I1,aj]
 have s2:w2.heap.size=w.heap.size+1+1:=by rw[<-hw2,aj,s1]
 have Fk:Hid (OfL w.heap.size (w.heap.size+1+1) w #[.int .i64 k,.int .i64 n,.bool x,.slice ra K rc] #[.int .i64 k,.int .i64 n,.bool x,.slice none 0 0] rs (.slice none 0 0) 0 w3):=by
  have b3:Below w2.heap.size w2 w3:=by rw[<-hw3];exact Yx w2 _
  have b2:Below w1.heap.size w1 w3:=by
   have:Below w1.heap.size w1 w2:=by rw[<-hw2];exact Yx w1 _
   exact this.trans (b3.mono this.size)
  have b1:Below w.heap.size w w3:=by
   have:Below w.heap.size w w1:=by rw[<-I1];exact Yx w _
   exact this.trans (b2.mono this.size)
  have B0:Z7 w3 w.heap.size TDp #[.int .i64 k,.int .i64 n,.bool x,.slice ra K rc]:=(by rw[<-I1];exact Z7.new w _ _:Z7 w1 w.heap.size TDp #[.int .i64 k,.int .i64 n,.bool x,.slice ra K rc]).below b2 jO;have B1:Z7 w3 w1.heap.size VQ #[.int .i64 0,.int .i64 0,.bool false,.slice none 0 0]:=(by rw[<-hw2];exact Z7.new w1 _ _:Z7 w2 w1.heap.size VQ #[.int .i64 0,.int .i64 0,.bool false,.slice none 0 0]).below b3 jO;have B2:Z7 w3 w2.heap.size VQ #[.int .i64 k,.int .i64 n,.bool x,.slice none 0 0]:=by rw[<-hw3];exact Z7.new w2 _ _
  rw[s1] at B1;rw[s2] at B2;exact⟨B0,B1,B2,ZX.Zg.nil _ _ _ _,b1,rfl⟩
 have HW:=aT (And.intro I1 (And.intro hw2 hw3));clear C h I1 hw2 hw3 s1 s2 hcs;go_enter func11,ntmps11;go_upto_region 3 with fail;rw[HW.out.1,HW.out.2.1,HW.out.2.2];clear HW;obtain⟨X,hX⟩:=jX (w.heap.size+1+1);rw[hX] at Fk ⊢;have HXe:=aT hX;have hsX:w.heap.size<X:=jO;clear hX;go_loopg [4] (K+1) (λgg s4 wr=>∃(q:Nat) (u:Value),q<=K/\K-q<gg/\s4=.int .i64 (q:Int)/\Hid (OfL w.heap.size X w #[.int .i64 k,.int .i64 n,.bool x,.slice ra K rc] #[.int .i64 k,.int .i64 n,.bool x,u] rs u q wr));case atStart=>exact⟨0,_,abd _,jO,rfl,Fk⟩
 case round=>
  obtain⟨q,u,hqK,Vs,rfl,Y⟩:=hrel;clear Fk;have q0':=jZ q;obtain⟨⟨b0,b1,b2,b3⟩,_⟩:=Z8 Y.pb;obtain⟨xa,xc,hu⟩:=Y.row.slice;rw[take_len HK.out hqK] at hu;subst hu;by_cases hlt:q<K
  ·have Zd:(q:Int)<(K:Int):=by omega
   have kR:=jW q;obtain⟨⟨nm,rk,rn,cs⟩,hc⟩:∃c,rs[q]? =some c:=⟨_,aL (by rw[HK.out];exact hlt)⟩;obtain⟨gu,off,ua,uc,rfl,DX,c0,c1,c2,c3,dp⟩:=HC q _ hc;have Ny:cs.length<=1000000:=HCs _ (ag hc);dsimp only at c0 c1 c2 c3 dp;obtain⟨CL,hCL⟩:=jX cs.length;rw[hCL] at c3 Ny;have fW:gu<w.heap.size:=adg DX hN;have vY:Hid (rs.take (q+1)=rs.take q++[⟨nm,rk,rn,cs⟩]):=by show _=_;rw[afd,hc];rfl
   have Nv:Hid (∀W:World,Below X wr W->W.cell? ⟨w.heap.size,3,none⟩=some (.slice (some ⟨gu,off,none⟩) K rc)/\W.cell? ⟨gu,off+q*4,none⟩=some (.string nm)/\W.cell? ⟨gu,off+q*4+1,none⟩=some (.int .i64 rk)/\W.cell? ⟨gu,off+q*4+2,none⟩=some (.int .i64 rn)/\W.cell? ⟨gu,off+q*4+3,none⟩=some (.slice ua CL uc)):=λW hW=>by
    have ce:∀j v,w.cell? ⟨gu,j,none⟩=some v->W.cell? ⟨gu,j,none⟩=some v:=λj v hv=>(hW.cell (p:=⟨gu,j,none⟩) (show gu<X from jO)).trans ((Y.Zr.cell (p:=⟨gu,j,none⟩) fW).trans hv)
    exact⟨(hW.cell (p:=⟨w.heap.size,3,none⟩) hsX).trans b3,ce _ _ c0,ce _ _ c1,ce _ _ c2,ce _ _ c3⟩
   have mJ:Hid (∀W,Below wr.heap.size wr W->Calls prog 28 #[.agg #[.string nm,.int .i64 rk,.int .i64 rn,.slice ua CL uc]] W λe w'=>∃u,e=.returned (.agg #[.string nm,.int .i64 rk,.int .i64 rn,u])/\w'.ownsRow W.heap.size TC 4 u CL (ZX.We cs)/\Below W.heap.size W w'):=λW hW=>
    uo hCL Ny W (aO hN (aO Y.Zr.size hW.size)) ((dp.below Y.Zr hN).below hW (aO hN Y.Zr.size))
   have CK:=aT hCL;have iX:X<wr.heap.size:=Y.xb.lt;have kd:Below X wr wr.drew:=(aG X wr).drew;have kdw:Below wr.heap.size wr wr.drew:=(aG _ wr).drew;have x3:wr.cell? ⟨X,3,none⟩=some (.slice xa q xc):=Y.xb.cell 3;clear c0 c1 c2 c3 hc b0 b1 b2 dp hCL;go_upto_region 5 with fail;refine akg (S:=λw'=>w'.cell? ⟨w.heap.size,3,none⟩=some (.slice (some ⟨gu,off,none⟩) K rc)/\w'.cell? ⟨gu,off+q*4,none⟩=some (.string nm)/\w'.cell? ⟨gu,off+q*4+1,none⟩=some (.int .i64 rk)/\w'.cell? ⟨gu,off+q*4+2,none⟩=some (.int .i64 rn)/\w'.cell? ⟨gu,off+q*4+3,none⟩=some (.slice ua CL uc)) jK (Nv _ (by first|(with_reducible assumption)|(with_reducible exact kd))) (λhHeld=> ?_);refine jT 0 ⟨some 22,.fieldAddr 51 (.tmp 3) 2,0,"top.go:20",#[],none⟩ ?_;try simp only[Act.put,aS,aP,aQ]
   refine jT 2 ⟨some 24,.fieldAddr 37 (.tmp 1) 2,0,"top.go:20",#[],none⟩ ?_;try simp only[Act.put,aS,aP,aQ]
   refine jT 3 ⟨some 25,.load 35 (.tmp 24),35,"top.go:20",#[⟨2,.data⟩],none⟩ ?_;try simp only[Act.put,aS,aP,aQ]
   refine jT 4 ⟨some 26,.move (.tmp 4),3,"top.go:20",#[],none⟩ ?_;try simp only[Act.put,aS,aP,aQ]
   refine jT 5 ⟨some 27,.indexAddr 35 (.tmp 25) (.tmp 26),0,"top.go:20",#[⟨3,.data⟩,⟨4,.data⟩],none⟩ ?_;try simp only[Act.put,aS,aP,aQ]
   refine jT 6 ⟨some 28,.load 34 (.tmp 27),34,"top.go:20",#[⟨5,.data⟩],none⟩ ?_;try simp only[Act.put,aS,aP,aQ]
   refine aba (rs:=[1,7]) jK jS ?_;refine ae (o:=ot) rfl (λK' C=> ?ac8) (ae (o:=eE) rfl (λK' C=> ?ac9) aae)
   case' ac8=>
    go_simp;refine C _ _ hHeld (λhHeld=> ?_);clear C K';try simp only[Act.put,aS,aP,aQ]
    refine aba (rs:=[7]) jK jS ?_;refine ae (o:=eE) rfl (λK' C=> ?aC7) aae;go_simp;refine(mJ _ kdw).mono ?_;rintro e Z ⟨un,rfl,U,TH⟩;obtain⟨J,I,rfl⟩:=Z0 U;have T:Below wr.heap.size wr Z:=(aG _ wr).drew.trans TH;have k7:Below X wr Z:=T.mono (acf iX);have ox:=T.trans ((Yx Z (.cells #[.string nm,.int .i64 rk,.int .i64 rn,.slice J CL I] TR)).mono T.size);have k8:Below X wr (Z.alloc (.cells #[.string nm,.int .i64 rk,.int .i64 rn,.slice J CL I] TR)):=ox.mono (acf iX);have D:=aT (Y.to ox);have HI7:=aT (Y.to T);have HNw:=aT (Y7 U (show X+1<=wr.heap.size from jO));have x7:Z.cell? ⟨X,3,none⟩=some (.slice xa q xc):=(Y.to T).xb.cell 3;have x8:(Z.alloc (.cells #[.string nm,.int .i64 rk,.int .i64 rn,.slice J CL I] TR)).cell? ⟨X,3,none⟩=some (.slice xa q xc):=D.xb.cell 3;have hs8:X+1<=(Z.alloc (.cells #[.string nm,.int .i64 rk,.int .i64 rn,.slice J CL I] TR)).heap.size:=D.xb.lt;obtain⟨us,mI,pj,hu3⟩:=HI7.row;rw[take_len HK.out hqK] at mI pj;have HU1:=aT mI;have HU2:=aT pj;have HU3:=aT hu3;have Uj:=aT (ZC pj (Yx Z (.cells #[.string nm,.int .i64 rk,.int .i64 rn,.slice J CL I] TR)));clear mI pj hu3 U;refine C _ _ (Nv _ (by first|(with_reducible assumption)|(with_reducible exact kd))) (λhHeld=> ?_);clear C K';try simp only[Act.put,aS,aP,aQ]
    refine aba (rs:=[8]) jK jS ?_;refine ae (o:=oq) rfl (λK' C=> ?aC8) aae;go_simp;refine C _ _ (Nv _ (by first|(with_reducible assumption)|(with_reducible exact kd))) (λhHeld=> ?_);clear C K';try simp only[Act.put,aS,aP,aQ]
   case' ac9=>
    go_simp;refine(mJ _ kdw).mono ?_;rintro e Z ⟨un,rfl,U,TH⟩;obtain⟨J,I,rfl⟩:=Z0 U;have T:Below wr.heap.size wr Z:=(aG _ wr).drew.trans TH;have k7:Below X wr Z:=T.mono (acf iX);have ox:=T.trans ((Yx Z (.cells #[.string nm,.int .i64 rk,.int .i64 rn,.slice J CL I] TR)).mono T.size);have k8:Below X wr (Z.alloc (.cells #[.string nm,.int .i64 rk,.int .i64 rn,.slice J CL I] TR)):=ox.mono (acf iX);have D:=aT (Y.to ox);have HI7:=aT (Y.to T);have HNw:=aT (Y7 U (show X+1<=wr.heap.size from jO));have x7:Z.cell? ⟨X,3,none⟩=some (.slice xa q xc):=(Y.to T).xb.cell 3;have x8:(Z.alloc (.cells #[.string nm,.int .i64 rk,.int .i64 rn,.slice J CL I] TR)).cell? ⟨X,3,none⟩=some (.slice xa q xc):=D.xb.cell 3;have hs8:X+1<=(Z.alloc (.cells #[.string nm,.int .i64 rk,.int .i64 rn,.slice J CL I] TR)).heap.size:=D.xb.lt;obtain⟨us,mI,pj,hu3⟩:=HI7.row;rw[take_len HK.out hqK] at mI pj;have HU1:=aT mI;have HU2:=aT pj;have HU3:=aT hu3;have Uj:=aT (ZC pj (Yx Z (.cells #[.string nm,.int .i64 rk,.int .i64 rn,.slice J CL I] TR)));clear mI pj hu3 U;refine C _ _ (Nv _ (by first|(with_reducible assumption)|(with_reducible exact kd))) (λhHeld=> ?_);clear C K';try simp only[Act.put,aS,aP,aQ]
    refine aba (rs:=[1,8]) jK jS ?_;refine ae (o:=ot) rfl (λK' C=> ?ad0) (ae (o:=oq) rfl (λK' C=> ?ad1) aae)
   case' ad0=>
    go_simp;refine C _ _ hHeld (λhHeld=> ?_);clear C K';try simp only[Act.put,aS,aP,aQ]
    refine aba (rs:=[8]) jK jS ?_;refine ae (o:=oq) rfl (λK' C=> ?aC9) aae;go_simp;refine C _ _ (Nv _ (by first|(with_reducible assumption)|(with_reducible exact kd))) (λhHeld=> ?_);clear C K';try simp only[Act.put,aS,aP,aQ]
   case' ad1=>
    go_simp;refine C _ _ (Nv _ (by first|(with_reducible assumption)|(with_reducible exact kd))) (λhHeld=> ?_);clear C K';try simp only[Act.put,aS,aP,aQ]
    refine aba (rs:=[1]) jK jS ?_;refine ae (o:=ot) rfl (λK' C=> ?aD0) aae;go_simp;refine C _ _ hHeld (λhHeld=> ?_);clear C K';try simp only[Act.put,aS,aP,aQ]
   all_goals (
    refine aba (rs:=[9]) jK jS ?_;refine ae (o:=⟨some 31,.call {callee:=.builtin .append,args:=#[.tmp 23,.tmp 30],argTypes:=#[49,49]},49,"top.go:20",#[⟨1,.data⟩,⟨8,.data⟩,⟨7,.chain⟩],none⟩) rfl (λK' C=> ?_) aae;refine step_append_lies _ rfl _ _ 49 rfl (X+1) TR i0 (.agg #[.string ⟨#[]⟩,.int .i64 0,.int .i64 0,.slice none 0 0]) 4 56 underlying49 XS RH Vb Tl rfl jD (.slice xa q xc) q (ZX.VF (rs.take q) us) rfl Uj ⟨Z.heap.size,0,none⟩ 1 1 [.string nm,.int .i64 rk,.int .i64 rn,.slice J CL I] rfl rfl (World.news_of_block (Z7.new Z _ _)) (by simp[Value.oneCell']) jD (by unfold maxLen;omega) jO hs8 _ rfl ?_;intro gb cap w8 Mj Lt Kf kH;have tD:=D.xb.kept Lt (λe=>YV Uj D.xb jD e.symm);have c8:w8.cell? ⟨X,3,none⟩=some (.slice xa q xc):=tD.cell 3;have f8:=tD.frozen 3;have k9:Below X wr w8:=k8.grown Lt (acf hs8) (λk e=>by have:=(Uj.lt k e).1;omega);have pX:=k9.setCell (p:=⟨X,3,none⟩) (aR X) (.slice (some ⟨gb,0,none⟩) (q+1) cap);have DB:=aT Lt;have Ic:=aT Mj;clear Lt Mj Kf tD;refine C _ _ (Nv _ (by first|(with_reducible assumption)|(with_reducible exact kd))) (λhHeld=> ?_);clear C K';try simp only[Act.put,aS,aP,aQ]
    refine jT 10 ⟨some 32,.fieldAddr 51 (.tmp 3) 2,0,"top.go:20",#[⟨0,.phase⟩,⟨1,.phase⟩,⟨2,.phase⟩,⟨3,.phase⟩,⟨4,.phase⟩,⟨5,.phase⟩,⟨6,.phase⟩,⟨7,.phase⟩,⟨8,.phase⟩,⟨9,.phase⟩],none⟩ ?_;try simp only[Act.put,aS,aP,aQ]
    refine aba (rs:=[11]) jK jS ?_;refine ae (o:=⟨none,.store 49 (.tmp 32) (.tmp 31),0,"top.go:20",#[⟨10,.data⟩,⟨9,.data⟩,⟨9,.chain⟩,⟨0,.phase⟩,⟨1,.phase⟩,⟨2,.phase⟩,⟨3,.phase⟩,⟨4,.phase⟩,⟨5,.phase⟩,⟨6,.phase⟩,⟨7,.phase⟩,⟨8,.phase⟩,⟨9,.phase⟩],none⟩) rfl (λK' C=> ?_) aae;go_simp;refine C _ _ (Nv _ (by first|(with_reducible assumption)|(with_reducible exact kd))) (λhHeld=> ?_);clear C K';try simp only[Act.put,aS,aP,aQ]
    refine ana jK ?_ _)
   all_goals (
    have mX:Hid (OfL w.heap.size X w #[.int .i64 k,.int .i64 n,.bool x,.slice (some ⟨gu,off,none⟩) K rc] #[.int .i64 k,.int .i64 n,.bool x,.slice (some ⟨gb,0,none⟩) (q+1) cap] rs (.slice (some ⟨gb,0,none⟩) (q+1) cap) (q+1) (w8.setCell ⟨X,3,none⟩ (.slice (some ⟨gb,0,none⟩) (q+1) cap))):=by have hR8:=D.pb.kept DB (λe=>YV Uj D.pb jD e.symm);have hZ8:=D.zb.kept DB (λe=>YV Uj D.zb jD e.symm);have tD:=D.xb.kept DB (λe=>YV Uj D.xb jD e.symm);have he:=HXe.out;refine⟨hR8.other jO 3 _,hZ8.other jO 3 _,tD.set 3 _,?_,(D.Zr.grown DB (acf D.pb.lt) (λk e=>by have:=(Uj.lt k e).1;omega)).setCell (p:=⟨X,3,none⟩) (acf hsX) _,he.symm⟩;rw[vY.out];exact ZX.zU (us:=us) (by rw[HU1.out,take_len HK.out hqK]) (by rw[take_len HK.out hqK];exact HU2) HU3 (by rw[CK.out];exact HNw) DB (by rw[take_len HK.out hqK];exact Ic)
    clear Y D HI7 DB Ic HU1 HU2 HU3 Uj HNw k9 pX k8 k7 c8 f8 x7 x8;go_wp2_with fail;go_roundg (K-q)
    (case measure=>omega)
    (case rel=>exact⟨q+1,_,jO,jO,by go_num,mX⟩))
  ·obtain rfl:q=K:=by omega
   have Zd:¬(q:Int)<(q:Int):=jO;have ou:Hid (rs.take q=rs):=abe (by rw[HK.out];exact aR _);obtain⟨⟨x0,x1,x2,x3⟩,_⟩:=Z8 Y.xb;obtain⟨⟨z0,z1,z2,z3⟩,f0,f1,f2,f3⟩:=Z8 Y.zb;go_wp2_with fail;have hz:=Y.zb;refine aaf (MS rfl (.inr (.inr rfl)) (ZF hz _ _ _ _) rfl) rfl ?_;refine⟨_,rfl,?_,ZE Y.Zr jO _ _ _ _⟩;have hrow:=Y.row;rw[ou.out] at hrow;exact oo (Sm (Sm (Sm (Sm hrow hz jD jD 0 _) (hz.set 0 _) jD jD 1 _) ((hz.set 0 _).set 1 _) jD jD 2 _) (((hz.set 0 _).set 1 _).set 2 _) jD jD 3 _) jO
def leB:Nat->Nat->List Nat
 |0,_=>[]
 |k+1,n=>n%256::leB k (n/256)
theorem Yr:∀k n:Nat,(leB k n).length=k
 |0,_=>rfl
 |k+1,n=>by rw[leB,ai,Yr k]
theorem JB:∀k n:Nat,∀b∈leB k n,b<256
 |0,_,b,h=>by simp[leB] at h
 |k+1,n,b,h=>by
  rw[leB,abb] at h;rcases h with rfl|h;·exact avf _ jD
  ·exact JB k _ b h
theorem CJ:∀k n:Nat,leB (k+1) n=leB k n++[n/256 ^ k%256]
 |0,n=>by simp[leB]
 |k+1,n=>by rw[leB,CJ k (n/256),Nat.div_div_eq_div_mul,show(256:Nat) ^ (k+1)=256*256 ^ k by rw[Nat.pow_succ,Nat.mul_comm]];rfl
abbrev TB:Nat:=5
theorem JA(a b:List Nat):Zl (a++b)=Zl a++Zl b:=by unfold Zl;rw[ada]
theorem MO(bs:List Nat):∀u∈Zl bs,u.oneCell'=true:=by
 intro u hu;obtain⟨b,_,rfl⟩:=ah.1 hu;rfl
theorem xU {base e s n:Nat}{v:Value}{xs:List Value}(h:W.ownsRow base e s v n xs)(hn:0<n):∃g c,v=.slice (some ⟨g,0,none⟩) n c:=by
 rcases h.2 with⟨rfl,D⟩|⟨g,cap,C,rfl,_⟩;·omega
 ·exact⟨_,_,rfl⟩
theorem zS(n K:Nat)(hn:n<YN)(hK:K<=8)(w:World):
 Calls prog 66 #[.int .u64 n,.int .i64 K] w λe w'=>∃v,e=.returned v/\w'.ownsRow w.heap.size TB 1 v K (Zl (leB K n))/\Below w.heap.size w w':=by
 obtain⟨i0,hi,hz0,hz1,hz2⟩:=ZP yu;go_enter func66,ntmps66;go_upto_region 3 with fail;go_loopg [0,5,6] (K+1) (λgg cv v iv wr=>∃i c:Nat,i<=K/\K-i<gg/\iv=.int .i64 (i:Int)/\cv=.int .u64 (c:Int)/\c<YN/\Hid (c=n/256 ^ i)/\Hid (wr.ownsRow w.heap.size TB 1 v i (Zl (leB i n)))/\Hid (Below w.heap.size w wr));case atStart=>exact⟨0,n,abd _,jO,rfl,rfl,hn,(show n=n/256 ^ 0 from jS),Ya _ _ _ _,aG _ _⟩
 case round=>
  obtain⟨i,c,hiK,Vs,rfl,rfl,T,HC,HR,HB⟩:=hrel;have wC:=jZ i;by_cases hlt:i<K
  ·have U:(i:Int)<(K:Int):=by omega
   have Jc:=jW i;have aK7:c<18446744073709551616:=T;have b0:IntKind.u8.wrap ((c:Int)%256)=((c%256:Nat):Int):=by rw[atd];omega
   obtain⟨q,hq,J⟩:∃q:Nat,(c:Int).tdiv 256=(q:Int)/\q=c/256:=⟨c/256,by rw[aqc jO];rfl,rfl⟩;have Y:q<YN:=by rw[J];exact azb (Nat.div_le_self _ _) T
   have aK8:q<18446744073709551616:=Y;have ny:Hid (q=n/256 ^ (i+1)):=by show _=_;rw[J,HC.out,Nat.div_div_eq_div_mul,Nat.pow_succ]
   have hqw:IntKind.u64.wrap (q:Int)=(q:Int):=by rw[IntKind.wrap_u64];omega
   clear J;have HS:Hid (leB (i+1) n=leB i n++[c%256]):=by show _=_;rw[CJ,HC.out]
   have Z:=aT (ZC HR (Yx wr (.cells #[.int .u8 ((c%256:Nat):Int)] TB)));have I:w.heap.size<=(wr.alloc (.cells #[.int .u8 ((c%256:Nat):Int)] TB)).heap.size:=aO HB.size (Yx wr _).size;have XX:=aT (HB.alloc HB.size (.cells #[.int .u8 ((c%256:Nat):Int)] TB))
   go_wp2_with (at_builtin;refine aea _ rfl _ _ 42 rfl w.heap.size TB i0 (.int .u8 0) 1 1 underlying42 hi hz0 hz1 hz2 rfl jD _ i _ rfl Z ⟨wr.heap.size,0,none⟩ 1 1 [.int .u8 ((c%256:Nat):Int)] rfl ?c1 ?c2 ?c3 ?c4 ?c5 ?c6 ?_;(case c1=>rfl);(case c2=>exact YX rfl);(case c3=>simp[Value.oneCell']);(case c4=>unfold maxLen;omega);(case c5=>omega);(case c6=>exact I);intro v' w6 D C _)
   have om:Hid (w6.ownsRow w.heap.size TB 1 v' (i+1) (Zl (leB (i+1) n))):=by show World.ownsRow _ _ _ _ _ _ _;rw[HS.out,JA];exact D
   have Ck:Hid (Below w.heap.size w w6):=XX.grown C I (λk e=>(Z.lt k e).1);clear D C;go_wp2_with fail;go_roundg (K-i);case measure=>omega
   case rel=>exact⟨i+1,q,jO,jO,by go_num,rfl,Y,ny,om,Ck⟩
  ·obtain rfl:i=K:=by omega
   have U:¬(i:Int)<(i:Int):=jO;go_wp2_with fail;go_ret;exact⟨_,rfl,HR,HB⟩
theorem QA(n K:Nat)(hn:n<YN)(C:0<K/\K<=8)(w:World):
 Calls prog 31 #[.int .u64 n,.int .i64 K,.bool false] w λe w'=>∃g c,e=.returned (.slice (some ⟨g,0,none⟩) K c)/\w'.ownsRow w.heap.size TB 1 (.slice (some ⟨g,0,none⟩) K c) K (Zl (leB K n))/\Below w.heap.size w w':=by
 have I:=aT (λW=>zS n K hn C.2 W);go_enter func31,ntmps31
 go_wp2_with (go_at_call 66;refine(I _).mono ?_;rintro e T ⟨v,rfl,hr,hb⟩;obtain⟨g,c,rfl⟩:=xU hr C.1;have J:=aT hr;have D:=aT hb;clear hr hb)
 go_ret;exact⟨_,_,rfl,J,D⟩
end Go.Proofs.YtclgigmgbebhgaaGreatDoor
