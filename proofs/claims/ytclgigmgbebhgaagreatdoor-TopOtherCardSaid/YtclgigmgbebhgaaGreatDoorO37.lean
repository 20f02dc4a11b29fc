/- TopOther: part 37: PolRRule PolAt PolIn PolOf PolRight TopLw2 TopLw3. -/
import Derived.Test.YtclgigmgbebhgaaGreatDoorO36
set_option linter.unusedVariables false
set_option linter.unusedSimpArgs false
set_option maxRecDepth 100000
set_option maxHeartbeats 16000000
namespace Go.Proofs.YtclgigmgbebhgaaGreatDoor.Z0
open Tryz
open Go Go.Proofs Go.RowKit
variable {N M tr q:Nat} {W W':World}
theorem G0 {B:Nat}{t:TypeId}{cs:Array Value}{row:Option Nat}(h:Z7 W B t cs)(A:W.grownBy W' row)(hr:∀q,row=some q->q≠B):Z7 W' B t cs:=(A.block B h.lt (λe=>hr B e.symm rfl)).trans h
theorem CT:∀(l:List YK) (k:Nat) (c:YK),l[k]? =some c->(Wm l)[k*4]? =some (.int .i64 c.a)/\(Wm l)[k*4+1]? =some (.int .i64 c.o)/\(Wm l)[k*4+2]? =some (.int .u64 c.m)/\(Wm l)[k*4+3]? =some (.int .u64 c.v)
 |x::l,0,c,h=>by simp at h;subst h;exact⟨rfl,rfl,rfl,rfl⟩
 |x::l,k+1,c,h=>by
  have A:=CT l k c (by simpa using h);have e:∀j,(Wm (x::l))[(k+1)*4+j]? =(Wm l)[k*4+j]? :=λj=>by
   show(G3 x++Wm l)[(k+1)*4+j]? =_;rw[aae (by show 4<=_;omega)]
   congr 1
   show(k+1)*4+j-4=_;omega
  exact⟨(e 0).trans A.1,(e 1).trans A.2.1,(e 2).trans A.2.2.1,(e 3).trans A.2.2.2⟩
theorem JP:∀(rs:List ZJ) (us:List Value) (i:Nat) (r:ZJ) (u:Value),rs[i]? =some r->us[i]? =some u->(Yi rs us)[i*4]? =some (.string r.name)/\(Yi rs us)[i*4+1]? =some (.int .i64 r.k)/\(Yi rs us)[i*4+2]? =some (.int .i64 r.n)/\(Yi rs us)[i*4+3]? =some u
 |x::rs,v::us,0,r,u,h,h2=>by simp at h h2;subst h h2;exact⟨rfl,rfl,rfl,rfl⟩
 |x::rs,v::us,i+1,r,u,h,h2=>by
  have A:=JP rs us i r u (by simpa using h) (by simpa using h2);have e:∀j,(Yi (x::rs) (v::us))[(i+1)*4+j]? =(Yi rs us)[i*4+j]? :=λj=>by
   show(LX x v++Yi rs us)[(i+1)*4+j]? =_;rw[aae (by show 4<=_;omega)]
   congr 1
   show(i+1)*4+j-4=_;omega
  exact⟨(e 0).trans A.1,(e 1).trans A.2.1,(e 2).trans A.2.2.1,(e 3).trans A.2.2.2⟩
def VW(N:Nat)(W:World)(ua:Option Addr)(cs:List YK):Prop:=
 ∀(k:Nat) (c:YK),cs[k]? =some c->∃gu,ua=some ⟨gu,0,none⟩/\gu<N/\W.cell? ⟨gu,k*4,none⟩=some (.int .i64 c.a)/\W.cell? ⟨gu,k*4+1,none⟩=some (.int .i64 c.o)/\W.cell? ⟨gu,k*4+2,none⟩=some (.int .u64 c.m)/\W.cell? ⟨gu,k*4+3,none⟩=some (.int .u64 c.v)
theorem VW.below{ua:Option Addr}{cs:List YK}(h:VW N W ua cs)(hb:Below M W W')(hN:N<=M):VW N W' ua cs:=by
 intro k c hk;obtain⟨A,e,hl,J,I,D,T⟩:=h k c hk;have C:∀j v,W.cell? ⟨A,j,none⟩=some v->W'.cell? ⟨A,j,none⟩=some v:=λj v hv=>(hb.cell (p:=⟨A,j,none⟩) (adf hl hN)).trans hv
 exact⟨A,e,hl,C _ _ J,C _ _ I,C _ _ D,C _ _ T⟩
theorem CS{tc lo:Nat} {a:Option Addr}{n c:Nat}{rs:List ZJ}(h:YW tr tc lo W (.slice a n c) rs){i:Nat}{r:ZJ}(hr:rs[i]? =some r):
 ∃g ua uc,a=some ⟨g,0,none⟩/\g<W.heap.size/\W.cell? ⟨g,i*4,none⟩=some (.string r.name)/\W.cell? ⟨g,i*4+1,none⟩=some (.int .i64 r.k)/\W.cell? ⟨g,i*4+2,none⟩=some (.int .i64 r.n)/\W.cell? ⟨g,i*4+3,none⟩=some (.slice ua r.conds.length uc)/\VW W.heap.size W ua r.conds:=by
 obtain⟨us,h1,C,h3⟩:=h;have hil:=(au.1 hr).1;obtain⟨u,hu⟩:∃u,us[i]? =some u:=⟨_,aM jO⟩;obtain⟨c0,c1,c2,c3⟩:=JP rs us i r u hr hu;have hw:=h3 i u r hu hr;rcases C.2 with⟨hv,Z⟩|⟨g,cap,cur,hv,_,hg,_⟩;·omega
 ·cases hv;have U:=C.cellAt (i*4) jO;have I:=C.cellAt (i*4+1) jO;have T:=C.cellAt (i*4+2) jO;have J:=C.cellAt (i*4+3) jO;rw[c0] at U;rw[c1] at I;rw[c2] at T;rw[c3] at J;rcases hw.2 with⟨rfl,Z⟩|⟨gu,A,Y,rfl,_,D,hcu,_⟩;·refine⟨g,none,0,rfl,(aaa.1 hg).1,U,I,T,by rw[J,Z],λk c hk=> ?_⟩;have:=(au.1 hk).1;omega
  ·refine⟨g,some ⟨gu,0,none⟩,A,rfl,(aaa.1 hg).1,U,I,T,J,λk c hk=> ?_⟩;have hkl:=(au.1 hk).1;obtain⟨k0,k1,k2,k3⟩:=CT r.conds k c hk;exact⟨gu,rfl,(aaa.1 D).1,(hw.cellAt _ jO).trans k0,(hw.cellAt _ jO).trans k1,(hw.cellAt _ jO).trans k2,(hw.cellAt _ jO).trans k3⟩
def Xv(N:Nat)(W:World)(ua:Option Addr)(cs:List YK):Prop:=
 ∀(k:Nat) (c:YK),cs[k]? =some c->∃gu off,ua=some ⟨gu,off,none⟩/\gu<N/\W.cell? ⟨gu,off+k*4,none⟩=some (.int .i64 c.a)/\W.cell? ⟨gu,off+k*4+1,none⟩=some (.int .i64 c.o)/\W.cell? ⟨gu,off+k*4+2,none⟩=some (.int .u64 c.m)/\W.cell? ⟨gu,off+k*4+3,none⟩=some (.int .u64 c.v)
def Yd(N:Nat)(W:World)(v:Value)(rs:List ZJ):Prop:=
 ∃a c,v=.slice a rs.length c/\∀(i:Nat) (r:ZJ),rs[i]? =some r->∃g off ua uc,a=some ⟨g,off,none⟩/\g<N/\W.cell? ⟨g,off+i*4,none⟩=some (.string r.name)/\W.cell? ⟨g,off+i*4+1,none⟩=some (.int .i64 r.k)/\W.cell? ⟨g,off+i*4+2,none⟩=some (.int .i64 r.n)/\W.cell? ⟨g,off+i*4+3,none⟩=some (.slice ua r.conds.length uc)/\Xv N W ua r.conds
theorem Xv.below{ua:Option Addr}{cs:List YK}(h:Xv N W ua cs)(hb:Below M W W')(hN:N<=M):Xv N W' ua cs:=by
 intro k c hk;obtain⟨A,off,e,hl,J,I,D,T⟩:=h k c hk;have C:∀j v,W.cell? ⟨A,j,none⟩=some v->W'.cell? ⟨A,j,none⟩=some v:=λj v hv=>(hb.cell (p:=⟨A,j,none⟩) (adf hl hN)).trans hv
 exact⟨A,off,e,hl,C _ _ J,C _ _ I,C _ _ D,C _ _ T⟩
theorem Yd.below{v:Value}{rs:List ZJ}(h:Yd N W v rs)(hb:Below M W W')(hN:N<=M):Yd N W' v rs:=by
 obtain⟨a,c,D,Z⟩:=h;refine⟨a,c,D,λi r hr=> ?_⟩;obtain⟨g,off,ua,uc,e,C,J,T,I,U,Y⟩:=Z i r hr;have A:∀j v,W.cell? ⟨g,j,none⟩=some v->W'.cell? ⟨g,j,none⟩=some v:=λj v hv=>(hb.cell (p:=⟨g,j,none⟩) (adf C hN)).trans hv
 exact⟨g,off,ua,uc,e,C,A _ _ J,A _ _ T,A _ _ I,A _ _ U,Y.below hb hN⟩
theorem VW.toI{ua:Option Addr}{cs:List YK}(h:VW N W ua cs):Xv N W ua cs:=by
 intro k c hk;obtain⟨A,e,hl,I,D,C,J⟩:=h k c hk;refine⟨A,0,e,hl,?_,?_,?_,?_⟩<;>rw[aca]<;>assumption
theorem YW.toI{tc lo:Nat} {v:Value}{rs:List ZJ}(h:YW tr tc lo W v rs):Yd W.heap.size W v rs:=by
 obtain⟨a,c,rfl⟩:=h.slice;refine⟨a,c,rfl,λi r hr=> ?_⟩;obtain⟨g,ua,uc,e,A,T,D,J,I,C⟩:=CS h hr;refine⟨g,0,ua,uc,e,A,?_,?_,?_,?_,C.toI⟩<;>rw[aca]<;>assumption
abbrev Xy:Nat:=51
theorem GZ{α:Type}{l:List α}{i:Nat}{x:α}(h:l[i]? =some x):l.take (i+1)=l.take i++[x]:=by
 have hl:=(au.1 h);rw[List.take_succ_eq_append_getElem hl.1,hl.2]
def xS(b:Bool)(w:World)(e:Ending)(w':World):Prop:=∃z:Int,e=.returned (.int .i64 z)/\(decide (0<=z)= !b)/\Below w.heap.size w w'
theorem CQ{α:Type}{p:α->Bool}{l:List α} {x:α}(h:(l.take q).all p=true)(hx:l[q]? =some x)(hp:p x=true):(l.take (q+1)).all p=true:=by
 rw[afb,hx,List.all_append,h];simp[hp]
theorem xR{α:Type}{p:α->Bool}{l:List α} {x:α}(hx:l[q]? =some x)(hp:p x=false):l.all p=false:=by
 rw[List.all_eq_false];exact⟨x,af hx,by rw[hp];decide⟩
theorem Jc(c:YK)(w:World):
 Calls prog 205 #[.agg #[.int .i64 c.a,.int .i64 c.o,.int .u64 c.m,.int .u64 c.v]] w λe w'=>e=.returned (.bool (!Wn c))/\Below w.heap.size w w':=by
 have C:=aT (λW=>Zh.XQ c.a c.o c.m c.v W);unfold Wn;go_enter func205,ntmps205
 go_wp2_with (go_at_call 32;refine(C _).mono ?_;rintro e D ⟨rfl,A⟩)
 go_ret;exact⟨rfl,((aH _ w).alloc (aR _) _).trans (A.mono jS)⟩
theorem FO {ua:Option Addr}{uc:Nat}{cs:List YK}(hl:cs.length<=1000000)(w:World)(hN:N<=w.heap.size)(h:VW N w ua cs):
 Calls prog 130 #[.slice ua cs.length uc,.func (.func 205) #[] #[]] w (xS (cs.all Wn) w):=by
 obtain⟨L,hL⟩:=jX cs.length;rw[hL] at hl ⊢;have HL:=aT hL;have HC:=aT h;have HN:=aT hN;clear h hL hN;go_enter func130,ntmps130;go_upto_region 2 with fail;go_loopg [5,8] (L+1) (λgg _ iv wr=>∃q:Nat,q<=L/\L-q<gg/\iv=.int .i64 (q:Int)/\Hid ((cs.take q).all Wn=true)/\Hid (Below w.heap.size w wr));case atStart=>exact⟨0,abc _,jO,rfl,(by show _=_;rfl),aH _ _⟩
 case round=>
  obtain⟨q,hqL,VP,rfl,HT,HB⟩:=hrel;have q0:=jZ q;by_cases hq:q<L
  ·have kW:(q:Int)<(L:Int):=by omega
   obtain⟨c,hc⟩:∃c,cs[q]? =some c:=⟨_,aM (by rw[HL.out];exact hq)⟩;obtain⟨gu,rfl,D3,y0,Z,y2,Y⟩:=HC q c hc;have U:gu<w.heap.size:=adf D3 HN;have J:∀j v,w.cell? ⟨gu,j,none⟩=some v->wr.cell? ⟨gu,j,none⟩=some v:=λj v hv=>(HB.cell (p:=⟨gu,j,none⟩) U).trans hv
   have y0:=J _ _ y0;have Z:=J _ _ Z;have y2:=J _ _ y2;have Y:=J _ _ Y;have D:=aT (Jc c wr);cases A:Wn c with
   |true=>
    have Uu:=aT (CQ HT hc A);rw[A] at D;clear J hc A;go_wp2_with fail;refine D.mono ?_;rintro e w1 ⟨rfl,C⟩;have I:=NP HB C;clear C y0 Z y2 Y;go_wp2;go_roundg (L-q);case measure=>omega
    case rel=>exact⟨q+1,jO,jO,by go_num,Uu,I⟩
   |false=>
    have HF:=aT (xR hc A);rw[A] at D;clear J hc A;go_wp2_with fail;refine D.mono ?_;rintro e w1 ⟨rfl,C⟩;have I:=NP HB C;clear C y0 Z y2 Y;go_wp2;go_ret;exact⟨_,rfl,by rw[HF.out];exact adb q0,I⟩
  ·obtain rfl:L=q:=by omega
   have kW:¬(L:Int)<(L:Int):=jO;have T:Hid (cs.all Wn=true):=by have h:=HT.out;rwa [abd (by rw[HL.out];exact aR _)] at h
   go_wp2;go_ret;exact⟨_,rfl,by rw[T.out];decide,HB⟩
theorem FM {ua:Option Addr}{uc:Nat}{cs:List YK}(hl:cs.length<=1000000)(w:World)(hN:N<=w.heap.size)(h:VW N w ua cs):
 Calls prog 79 #[.slice ua cs.length uc,.func (.func 205) #[] #[]] w λe w'=>e=.returned (.bool (!cs.all Wn))/\Below w.heap.size w w':=by
 have D:=aT (FO (uc:=uc) hl w hN h);generalize cs.all Wn=b at*;generalize cs.length=L at*;clear h hN;go_enter func79,ntmps79;go_wp2_with fail;refine D.mono ?_;rintro e J ⟨z,rfl,hz,A⟩;have C:=aT A;have hz:decide ((0:Int)<=z)= !b:=hz;have I:=aT hz;clear A D;go_wp2;go_ret;exact⟨by first|rw[I.out]|rw[<-I.out];simp,C⟩
theorem and_true(b:Bool):(b&&true)=b:=by cases b<;>rfl
theorem Jb{N:Nat}{r:ZJ}{ua:Option Addr}{uc:Nat}(hs:r.name.size<=1000000)(hl:r.conds.length<=1000000)(w:World)(hN:N<=w.heap.size)(h:VW N w ua r.conds):
 Calls prog 126 #[.agg #[.string r.name,.int .i64 r.k,.int .i64 r.n,.slice ua r.conds.length uc]] w λe w'=>e=.returned (.bool (V2 r))/\Below w.heap.size w w':=by
 obtain⟨nm,k,n,cs⟩:=r;dsimp only at hs hl h ⊢;unfold V2;dsimp only;have D:=aT (λW=>zW nm hs W);have Y:=aT (λW=>X7.XQ k n W);have xr:=aT (λW (hb:Below w.heap.size w W)=>FM (N:=N) (uc:=uc) hl W (aO hN hb.size) (h.below hb hN));generalize hA:cs.all Wn=ba at*;generalize cs.length=L at*;have hX:=Z7.new w iH #[.string nm,.int .i64 k,.int .i64 n,.slice ua L uc];have HX:=aT hX;have HB:=aT ((aH w.heap.size w).alloc (aR _) (.cells #[.string nm,.int .i64 k,.int .i64 n,.slice ua L uc] iH));clear h hN hX hA hs;cases Z:Pw nm with
 |false=>
  rw[Z] at D;clear Z;go_enter func126,ntmps126
  go_wp2_with (go_at_call 204;refine(D _).mono ?_;rintro e w1 ⟨rfl,A⟩)
  go_ret;exact⟨rfl,(NP HB A)⟩
 |true=>
  rw[Z] at D;clear Z;cases J:X7.Zc k n with
  |false=>
   rw[J] at Y;clear J;go_enter func126,ntmps126;go_wp2_with fail;refine(D _).mono ?_;rintro e w1 ⟨rfl,A⟩;have C:=G4 HX A;have T:=NP HB A;have a1:=C.cell 1;have a2:=C.cell 2;simp only[ak,aL,aF] at a1 a2;clear A HX HB
   go_wp2_with (go_at_call 123;refine(Y _).mono ?_;rintro e w2 ⟨rfl,I⟩)
   go_ret;exact⟨rfl,(NP T I)⟩
  |true=>
   rw[J] at Y;clear J;go_enter func126,ntmps126;go_wp2_with fail;refine(D _).mono ?_;rintro e w1 ⟨rfl,A⟩;have C:=G4 HX A;have T:=NP HB A;have a1:=C.cell 1;have a2:=C.cell 2;simp only[ak,aL,aF] at a1 a2;clear A HX HB;go_wp2_with fail;refine(Y _).mono ?_;rintro e w2 ⟨rfl,I⟩;have xd:=G4 C I;have U:=NP T I;have a3:=xd.cell 3;simp only[ak,aL,aF] at a3;clear I C T a1 a2;by_cases h6:L<=6
   ·have h6z:(L:Int)<=6:=by omega
    have e6:decide (L<=6)=true:=adb h6;have e6z:decide ((L:Int)<=6)=true:=adb h6z;go_wp2_with fail;refine(xr _ U).mono ?_;rintro e w3 ⟨rfl,hb3⟩;have Vj:=NP U hb3;clear hb3 xd U a3;go_wp2;go_ret;exact⟨by rw[e6];cases ba<;>rfl,Vj⟩
   ·have h6z:¬(L:Int)<=6:=by omega
    have e6:decide (L<=6)=false:=aee h6;have e6z:decide ((L:Int)<=6)=false:=aee h6z;go_wp2;go_ret;exact⟨by rw[e6];rfl,U⟩
theorem Ja {r:ZJ}{ua:Option Addr}{uc:Nat}(hs:r.name.size<=1000000)(hl:r.conds.length<=1000000)(w:World)(hN:N<=w.heap.size)(h:VW N w ua r.conds):
 Calls prog 125 #[.agg #[.string r.name,.int .i64 r.k,.int .i64 r.n,.slice ua r.conds.length uc]] w λe w'=>e=.returned (.bool (!V2 r))/\Below w.heap.size w w':=by
 have C:=aT ((aH w.heap.size w).alloc (aR _) (.cells #[.string r.name,.int .i64 r.k,.int .i64 r.n,.slice ua r.conds.length uc] iH));have I:=aT (Jb (uc:=uc) hs hl _ (aO hN C.size) (h.below C hN));clear h hN;generalize V2 r=b at*;go_enter func125,ntmps125;go_wp2_with fail;refine I.mono ?_;rintro e J ⟨rfl,A⟩;have D:=NP C A;clear A C I;go_wp2;go_ret;exact⟨rfl,D⟩
theorem FL{lo:Nat}{v:Value}{rs:List ZJ}(hl:rs.length<=1000000)(hc:∀r∈rs,r.name.size<=1000000/\r.conds.length<=1000000)(w:World)(h:YW iH TCd lo w v rs):
 Calls prog 83 #[v,.func (.func 125) #[] #[]] w (xS (rs.all V2) w):=by
 obtain⟨a,c,rfl⟩:=h.slice;obtain⟨L,hL⟩:=jX rs.length;rw[hL] at hl h ⊢;have HL:=aT hL;have HR:=aT h;have HCD:=aT hc;clear h hL hc;go_enter func83,ntmps83;go_upto_region 2 with fail;go_loopg [5,8] (L+1) (λgg _ iv wr=>∃q:Nat,q<=L/\L-q<gg/\iv=.int .i64 (q:Int)/\Hid ((rs.take q).all V2=true)/\Hid (Below w.heap.size w wr));case atStart=>exact⟨0,abc _,jO,rfl,(by show _=_;rfl),aH _ _⟩
 case round=>
  obtain⟨q,hqL,VP,rfl,HT,Z⟩:=hrel;have q0:=jZ q;by_cases hq:q<L
  ·have kW:(q:Int)<(L:Int):=by omega
   obtain⟨r,hr⟩:∃r,rs[q]? =some r:=⟨_,aM (by rw[HL.out];exact hq)⟩;obtain⟨g1,ua1,uc1,rfl,hg1,y0,y1,y2,y3,I⟩:=CS HR hr;have Y:∀j v,w.cell? ⟨g1,j,none⟩=some v->wr.cell? ⟨g1,j,none⟩=some v:=λj v hv=>(Z.cell (p:=⟨g1,j,none⟩) hg1).trans hv
   have y0:=Y _ _ y0;have y1:=Y _ _ y1;have y2:=Y _ _ y2;have y3:=Y _ _ y3;obtain⟨J,U⟩:=HCD r (af hr);have D:=aT (Ja (N:=w.heap.size) (r:=r) (ua:=ua1) (uc:=uc1) J U wr Z.size (I.below Z (aR _)));cases A:V2 r with
   |true=>
    have Uu:=aT (CQ HT hr A);rw[A] at D;clear Y hr A I J U;go_wp2_with fail;refine D.mono ?_;rintro e w1 ⟨rfl,C⟩;have T:=NP Z C;clear C y0 y1 y2 y3;go_wp2;go_roundg (L-q);case measure=>omega
    case rel=>exact⟨q+1,jO,jO,by go_num,Uu,T⟩
   |false=>
    have HF:=aT (xR hr A);rw[A] at D;clear Y hr A I J U;go_wp2_with fail;refine D.mono ?_;rintro e w1 ⟨rfl,C⟩;have T:=NP Z C;clear C y0 y1 y2 y3;go_wp2;go_ret;exact⟨_,rfl,by rw[HF.out];exact adb q0,T⟩
  ·obtain rfl:L=q:=by omega
   have kW:¬(L:Int)<(L:Int):=jO;have aC8:Hid (rs.all V2=true):=by have h:=HT.out;rwa [abd (by rw[HL.out];exact aR _)] at h
   go_wp2;go_ret;exact⟨_,rfl,by rw[aC8.out];decide,Z⟩
theorem FK{lo:Nat}{v:Value}{rs:List ZJ}(hl:rs.length<=1000000)(hc:∀r∈rs,r.name.size<=1000000/\r.conds.length<=1000000)(w:World)(h:YW iH TCd lo w v rs):
 Calls prog 124 #[v,.func (.func 125) #[] #[]] w λe w'=>e=.returned (.bool (!rs.all V2))/\Below w.heap.size w w':=by
 have D:=aT (FL hl hc w h);obtain⟨a,c,rfl⟩:=h.slice;generalize rs.all V2=b at*;generalize rs.length=L at*;clear h hc;go_enter func124,ntmps124;go_wp2_with fail;refine D.mono ?_;rintro e J ⟨z,rfl,hz,A⟩;have C:=aT A;have hz:decide ((0:Int)<=z)= !b:=hz;have I:=aT hz;clear A D;go_wp2;go_ret;exact⟨by first|rw[I.out]|rw[<-I.out];simp,C⟩
def Small(p:PSt):Prop:=p.rules.length<=1000000/\∀r∈p.rules,r.name.size<=1000000/\r.conds.length<=1000000
theorem zS{p:PSt}{v:Value}{lo:Nat}(hs:Small p)(w:World)(h:YW iH TCd lo w v p.rules):
 Calls prog 75 #[iG p.k p.n p.x v] w λe w'=>e=.returned (.bool (xU p))/\Below w.heap.size w w':=by
 obtain⟨k,n,x,rs⟩:=p;obtain⟨a,c,rfl⟩:=h.slice;obtain⟨U,J⟩:=hs;dsimp only at U J h ⊢;unfold xU iG;dsimp only;have I:=aT (λW=>X7.XQ k n W);have xr:=aT (λW (hb:Below w.heap.size w W)=>FK U J W (h.below hb));generalize hA:rs.all V2=ba at*;generalize rs.length=L at*;have HX:=aT (Z7.new w Xy #[.int .i64 k,.int .i64 n,.bool x,.slice a L c]);have HB:=aT ((aH w.heap.size w).alloc (aR _) (.cells #[.int .i64 k,.int .i64 n,.bool x,.slice a L c] Xy));clear h hA J;cases C:X7.Zc k n with
 |false=>
  rw[C] at I;clear C;go_enter func75,ntmps75
  go_wp2_with (go_at_call 123;refine(I _).mono ?_;rintro e w2 ⟨rfl,A⟩)
  go_ret;exact⟨rfl,(NP HB A)⟩
 |true=>
  rw[C] at I;clear C;go_enter func75,ntmps75;go_wp2_with fail;refine(I _).mono ?_;rintro e w2 ⟨rfl,A⟩;have Y:=G4 HX A;have D:=NP HB A;have a3:=Y.cell 3;simp only[ak,aL,aF] at a3;clear A HX HB;by_cases h6:L<=500
  ·have T:(L:Int)<=500:=by omega
   have e6:decide (L<=500)=true:=adb h6;have e6z:decide ((L:Int)<=500)=true:=adb T;go_wp2_with fail;refine(xr _ D).mono ?_;rintro e w3 ⟨rfl,Z⟩;have Vj:=NP D Z;clear Z Y D a3;go_wp2;go_ret;exact⟨by rw[e6];cases ba<;>rfl,Vj⟩
  ·have T:¬(L:Int)<=500:=by omega
   have e6:decide (L<=500)=false:=aee h6;have e6z:decide ((L:Int)<=500)=false:=aee T;go_wp2;go_ret;exact⟨by rw[e6];rfl,D⟩
end Go.Proofs.YtclgigmgbebhgaaGreatDoor.Z0
namespace Go.Proofs.YtclgigmgbebhgaaGreatDoor
open Tryz
open Go Go.Proofs Go.RowKit
variable {N K:Nat} {W:World}
@[go_sem] abbrev oN:Oper:=⟨some 23,.load 89 (.tmp 22),89,"top.go:29",#[⟨0,.data⟩],none⟩
@[go_sem] abbrev dU:Oper:=⟨some 29,.call {callee:=.value (.func 19),args:=#[.tmp 28],argTypes:=#[27]},68,"top.go:29",#[⟨6,.data⟩],none⟩
@[go_sem] abbrev oM:Oper:=⟨some 30,.buildSlice 89 1 #[(0,.tmp 29)],89,"top.go:29",#[⟨7,.data⟩],none⟩
abbrev R4:Nat:=34
structure RuL(s X:Nat)(w:World)(rc xc:Array Value)(cs:List Z0.YK)(u:Value)(q:Nat)(W:World):Prop where
 rb:Z7 W s R4 rc
 zb:Z7 W (s+1) TR #[.string ⟨#[]⟩,.int .i64 0,.int .i64 0,.slice none 0 0]
 xb:Z7 W X TR xc
 row:W.ownsRow (X+1) TC 4 u q (Z0.Wm (cs.take q))
 Zs:Below s w W
 hX:X=s+1+1
section
variable {s X q:Nat} {w W W':World} {rc xc:Array Value} {cs:List Z0.YK} {u:Value}
theorem RuL.to(h:RuL s X w rc xc cs u q W)(hb:Below W.heap.size W W'):RuL s X w rc xc cs u q W':=
 ⟨h.rb.below hb h.rb.lt,h.zb.below hb h.zb.lt,h.xb.below hb h.xb.lt,ZE h.row hb,h.Zs.trans (hb.mono (ace h.rb.lt)),h.hX⟩
end
theorem uw {nm:ByteArray}{k n:Int}{ua:Option Addr}{uc:Nat}{cs:List Z0.YK}(D:cs.length=K)(hl:K<=1000000)(w:World)(hN:N<=w.heap.size)(h:Z0.Xv N w ua cs):
 Calls prog 28 #[.agg #[.string nm,.int .i64 k,.int .i64 n,.slice ua K uc]] w λe w'=>∃u,e=.returned (.agg #[.string nm,.int .i64 k,.int .i64 n,u])/\w'.ownsRow w.heap.size TC 4 u K (Z0.Wm cs)/\Below w.heap.size w w':=by
 have HK:=aT D;have HC:=aT h;obtain⟨i0,XX,SC,Vo,TD⟩:=RP Gi;obtain⟨w1,Jg⟩:∃z,w.alloc (.cells #[.string nm,.int .i64 k,.int .i64 n,.slice ua K uc] R4)=z:=⟨_,rfl⟩;obtain⟨w2,hw2⟩:∃z,w1.alloc (.cells #[.string ⟨#[]⟩,.int .i64 0,.int .i64 0,.slice none 0 0] TR)=z:=⟨_,rfl⟩;obtain⟨w3,hw3⟩:∃z,w2.alloc (.cells #[.string nm,.int .i64 k,.int .i64 n,.slice none 0 0] TR)=z:=⟨_,rfl⟩;have s1:w1.heap.size=w.heap.size+1:=by rw[<-Jg,ah]
 have s2:w2.heap.size=w.heap.size+1+1:=by rw[<-hw2,ah,s1]
 have Fu:Hid (RuL w.heap.size (w.heap.size+1+1) w #[.string nm,.int .i64 k,.int .i64 n,.slice ua K uc] #[.string nm,.int .i64 k,.int .i64 n,.slice none 0 0] cs (.slice none 0 0) 0 w3):=by
  have b3:Below w2.heap.size w2 w3:=by rw[<-hw3];exact Yl w2 _
  have b2:Below w1.heap.size w1 w3:=by
   have:Below w1.heap.size w1 w2:=by rw[<-hw2];exact Yl w1 _
   exact this.trans (b3.mono this.size)
  have b1:Below w.heap.size w w3:=by
   have:Below w.heap.size w w1:=by rw[<-Jg];exact Yl w _
   exact this.trans (b2.mono this.size)
  have B0:Z7 w3 w.heap.size R4 #[.string nm,.int .i64 k,.int .i64 n,.slice ua K uc]:=(by rw[<-Jg];exact Z7.new w _ _:Z7 w1 w.heap.size R4 #[.string nm,.int .i64 k,.int .i64 n,.slice ua K uc]).below b2 jO;have B1:Z7 w3 w1.heap.size TR #[.string ⟨#[]⟩,.int .i64 0,.int .i64 0,.slice none 0 0]:=(by rw[<-hw2];exact Z7.new w1 _ _:Z7 w2 w1.heap.size TR #[.string ⟨#[]⟩,.int .i64 0,.int .i64 0,.slice none 0 0]).below b3 jO;have B2:Z7 w3 w2.heap.size TR #[.string nm,.int .i64 k,.int .i64 n,.slice none 0 0]:=by rw[<-hw3];exact Z7.new w2 _ _
  rw[s1] at B1;rw[s2] at B2;exact⟨B0,B1,B2,Yg _ _ _ _,b1,rfl⟩
 have HW:=aT (And.intro Jg (And.intro hw2 hw3));clear D h Jg hw2 hw3 s1 s2;go_enter func28,ntmps28;go_upto_region 3 with fail;rw[HW.out.1,HW.out.2.1,HW.out.2.2];clear HW;obtain⟨X,hX⟩:=jX (w.heap.size+1+1);rw[hX] at Fu ⊢;have HXe:=aT hX;have hsX:w.heap.size<X:=jO;clear hX;go_loopg [4] (K+1) (λgg s4 wr=>∃(q:Nat) (u:Value),q<=K/\K-q<gg/\s4=.int .i64 (q:Int)/\Hid (RuL w.heap.size X w #[.string nm,.int .i64 k,.int .i64 n,.slice ua K uc] #[.string nm,.int .i64 k,.int .i64 n,u] cs u q wr));case atStart=>exact⟨0,_,abc _,jO,rfl,Fu⟩
 case round=>
  obtain⟨q,u,hqK,VP,rfl,Z⟩:=hrel;clear Fu;have q0':=jZ q;obtain⟨⟨b0,b1,b2,b3⟩,_⟩:=Z8 Z.rb;obtain⟨xa,xc,rfl⟩:=Z1 Z.row;by_cases hlt:q<K
  ·have Y8:(q:Int)<(K:Int):=by omega
   have kF:=jW q;obtain⟨⟨A,O,M2,V⟩,hc⟩:∃c,cs[q]? =some c:=⟨_,aM (by rw[HK.out];exact hlt)⟩;obtain⟨Y,off,rfl,D3,c0,c1,c2,c3⟩:=HC q _ hc;dsimp only at c0 c1 c2 c3;have fF:Y<w.heap.size:=adf D3 hN;have wD:Hid (Z0.Wm (cs.take (q+1))=Z0.Wm (cs.take q)++[.int .i64 A,.int .i64 O,.int .u64 M2,.int .u64 V]):=by show _=_;rw[afb,hc];exact Z0.zV _ _
   have U:Hid (∀W:World,Below X wr W->W.cell? ⟨w.heap.size,3,none⟩=some (.slice (some ⟨Y,off,none⟩) K uc)/\W.cell? ⟨Y,off+q*4,none⟩=some (.int .i64 A)/\W.cell? ⟨Y,off+q*4+1,none⟩=some (.int .i64 O)/\W.cell? ⟨Y,off+q*4+2,none⟩=some (.int .u64 M2)/\W.cell? ⟨Y,off+q*4+3,none⟩=some (.int .u64 V)):=λW hW=>by
    have ce:∀j v,w.cell? ⟨Y,j,none⟩=some v->W.cell? ⟨Y,j,none⟩=some v:=λj v hv=>(hW.cell (p:=⟨Y,j,none⟩) (show Y<X from jO)).trans ((Z.Zs.cell (p:=⟨Y,j,none⟩) fF).trans hv)
    exact⟨(hW.cell (p:=⟨w.heap.size,3,none⟩) hsX).trans b3,ce _ _ c0,ce _ _ c1,ce _ _ c2,ce _ _ c3⟩
   have my:=aT (λW=>Ac A O M2 V W);have iF:X<wr.heap.size:=Z.xb.lt;have kd:Below X wr wr.drew:=(aH X wr).drew;have x3:wr.cell? ⟨X,3,none⟩=some (.slice xa q xc):=Z.xb.cell 3;clear c0 c1 c2 c3 hc b0 b1 b2;go_upto_region 5 with fail;refine akd (S:=λw'=>w'.cell? ⟨w.heap.size,3,none⟩=some (.slice (some ⟨Y,off,none⟩) K uc)/\w'.cell? ⟨Y,off+q*4,none⟩=some (.int .i64 A)/\w'.cell? ⟨Y,off+q*4+1,none⟩=some (.int .i64 O)/\w'.cell? ⟨Y,off+q*4+2,none⟩=some (.int .u64 M2)/\w'.cell? ⟨Y,off+q*4+3,none⟩=some (.int .u64 V)) jK (U _ (by first|(with_reducible assumption)|(with_reducible exact kd))) (λhHeld=> ?_);refine jT 0 ⟨some 22,.fieldAddr 91 (.tmp 3) 2,0,"top.go:29",#[],none⟩ ?_;try simp only[Act.put,aS,aP,aQ]
   refine jT 2 ⟨some 24,.fieldAddr 34 (.tmp 1) 2,0,"top.go:29",#[],none⟩ ?_;try simp only[Act.put,aS,aP,aQ]
   refine jT 3 ⟨some 25,.load 22 (.tmp 24),22,"top.go:29",#[⟨2,.data⟩],none⟩ ?_;try simp only[Act.put,aS,aP,aQ]
   refine jT 4 ⟨some 26,.move (.tmp 4),3,"top.go:29",#[],none⟩ ?_;try simp only[Act.put,aS,aP,aQ]
   refine jT 5 ⟨some 27,.indexAddr 22 (.tmp 25) (.tmp 26),0,"top.go:29",#[⟨3,.data⟩,⟨4,.data⟩],none⟩ ?_;try simp only[Act.put,aS,aP,aQ]
   refine jT 6 ⟨some 28,.load 27 (.tmp 27),27,"top.go:29",#[⟨5,.data⟩],none⟩ ?_;try simp only[Act.put,aS,aP,aQ]
   refine aaf (rs:=[1,7]) jK jS ?_;refine ag (o:=oN) rfl (λJ D=> ?ad1) (ag (o:=dU) rfl (λJ D=> ?ad2) aab)
   case' ad1=>
    go_simp;refine D _ _ hHeld (λhHeld=> ?_);clear D J;try simp only[Act.put,aS,aP,aQ]
    refine aaf (rs:=[7]) jK jS ?_;refine ag (o:=dU) rfl (λJ D=> ?aC9) aab;go_simp;refine(my _).mono ?_;rintro e T ⟨rfl,Sm⟩;have I:Below wr.heap.size wr T:=(aH _ wr).drew.trans Sm;have k7:Below X wr T:=I.mono (ace iF);have oL:=I.trans ((Yl T (.cells #[.int .i64 A,.int .i64 O,.int .u64 M2,.int .u64 V] TC)).mono I.size);have k8:Below X wr (T.alloc (.cells #[.int .i64 A,.int .i64 O,.int .u64 M2,.int .u64 V] TC)):=oL.mono (ace iF);have C:=aT (Z.to oL);have x7:T.cell? ⟨X,3,none⟩=some (.slice xa q xc):=(Z.to I).xb.cell 3;have x8:(T.alloc (.cells #[.int .i64 A,.int .i64 O,.int .u64 M2,.int .u64 V] TC)).cell? ⟨X,3,none⟩=some (.slice xa q xc):=C.xb.cell 3;have hs8:X+1<=(T.alloc (.cells #[.int .i64 A,.int .i64 O,.int .u64 M2,.int .u64 V] TC)).heap.size:=C.xb.lt;refine D _ _ (U _ (by first|(with_reducible assumption)|(with_reducible exact kd))) (λhHeld=> ?_);clear D J;try simp only[Act.put,aS,aP,aQ]
    refine aaf (rs:=[8]) jK jS ?_;refine ag (o:=oM) rfl (λJ D=> ?aD0) aab;go_simp;refine D _ _ (U _ (by first|(with_reducible assumption)|(with_reducible exact kd))) (λhHeld=> ?_);clear D J;try simp only[Act.put,aS,aP,aQ]
   case' ad2=>
    go_simp;refine(my _).mono ?_;rintro e T ⟨rfl,Sm⟩;have I:Below wr.heap.size wr T:=(aH _ wr).drew.trans Sm;have k7:Below X wr T:=I.mono (ace iF);have oL:=I.trans ((Yl T (.cells #[.int .i64 A,.int .i64 O,.int .u64 M2,.int .u64 V] TC)).mono I.size);have k8:Below X wr (T.alloc (.cells #[.int .i64 A,.int .i64 O,.int .u64 M2,.int .u64 V] TC)):=oL.mono (ace iF);have C:=aT (Z.to oL);have x7:T.cell? ⟨X,3,none⟩=some (.slice xa q xc):=(Z.to I).xb.cell 3;have x8:(T.alloc (.cells #[.int .i64 A,.int .i64 O,.int .u64 M2,.int .u64 V] TC)).cell? ⟨X,3,none⟩=some (.slice xa q xc):=C.xb.cell 3;have hs8:X+1<=(T.alloc (.cells #[.int .i64 A,.int .i64 O,.int .u64 M2,.int .u64 V] TC)).heap.size:=C.xb.lt;refine D _ _ (U _ (by first|(with_reducible assumption)|(with_reducible exact kd))) (λhHeld=> ?_);clear D J;try simp only[Act.put,aS,aP,aQ]
    refine aaf (rs:=[1,8]) jK jS ?_;refine ag (o:=oN) rfl (λJ D=> ?ad3) (ag (o:=oM) rfl (λJ D=> ?ad4) aab)
   case' ad3=>
    go_simp;refine D _ _ hHeld (λhHeld=> ?_);clear D J;try simp only[Act.put,aS,aP,aQ]
    refine aaf (rs:=[8]) jK jS ?_;refine ag (o:=oM) rfl (λJ D=> ?aD1) aab;go_simp;refine D _ _ (U _ (by first|(with_reducible assumption)|(with_reducible exact kd))) (λhHeld=> ?_);clear D J;try simp only[Act.put,aS,aP,aQ]
   case' ad4=>
    go_simp;refine D _ _ (U _ (by first|(with_reducible assumption)|(with_reducible exact kd))) (λhHeld=> ?_);clear D J;try simp only[Act.put,aS,aP,aQ]
    refine aaf (rs:=[1]) jK jS ?_;refine ag (o:=oN) rfl (λJ D=> ?aD2) aab;go_simp;refine D _ _ hHeld (λhHeld=> ?_);clear D J;try simp only[Act.put,aS,aP,aQ]
   all_goals (
    refine aaf (rs:=[9]) jK jS ?_;refine ag (o:=⟨some 31,.call {callee:=.builtin .append,args:=#[.tmp 23,.tmp 30],argTypes:=#[89,89]},89,"top.go:29",#[⟨1,.data⟩,⟨8,.data⟩,⟨7,.chain⟩],none⟩) rfl (λJ D=> ?_) aab;refine step_append_lies _ rfl _ _ 89 rfl (X+1) TC i0 (.agg #[.int .i64 0,.int .i64 0,.int .u64 0,.int .u64 0]) 4 32 underlying89 XX SC Vo TD rfl jD (.slice xa q xc) q (Z0.Wm (cs.take q)) rfl C.row ⟨T.heap.size,0,none⟩ 1 1 [.int .i64 A,.int .i64 O,.int .u64 M2,.int .u64 V] rfl rfl (World.news_of_block (Z7.new T _ _)) (by simp[Value.oneCell']) jD (by unfold maxLen;omega) jO hs8 _ rfl ?_;intro gb cap w8 Mv LG Kp ku;have tM:=C.xb.kept LG (λe=>YZ C.row C.xb jD e.symm);have c8:w8.cell? ⟨X,3,none⟩=some (.slice xa q xc):=tM.cell 3;have f8:=tM.frozen 3;have k9:Below X wr w8:=k8.grown LG (ace hs8) (λk e=>by have:=(C.row.lt k e).1;omega);have jG:=k9.setCell (p:=⟨X,3,none⟩) (aR X) (.slice (some ⟨gb,0,none⟩) (q+1) cap);have DC:=aT LG;have Im:=aT Mv;clear LG Mv Kp tM;refine D _ _ (U _ (by first|(with_reducible assumption)|(with_reducible exact kd))) (λhHeld=> ?_);clear D J;try simp only[Act.put,aS,aP,aQ]
    refine jT 10 ⟨some 32,.fieldAddr 91 (.tmp 3) 2,0,"top.go:29",#[⟨0,.phase⟩,⟨1,.phase⟩,⟨2,.phase⟩,⟨3,.phase⟩,⟨4,.phase⟩,⟨5,.phase⟩,⟨6,.phase⟩,⟨7,.phase⟩,⟨8,.phase⟩,⟨9,.phase⟩],none⟩ ?_;try simp only[Act.put,aS,aP,aQ]
    refine aaf (rs:=[11]) jK jS ?_;refine ag (o:=⟨none,.store 89 (.tmp 32) (.tmp 31),0,"top.go:29",#[⟨10,.data⟩,⟨9,.data⟩,⟨9,.chain⟩,⟨0,.phase⟩,⟨1,.phase⟩,⟨2,.phase⟩,⟨3,.phase⟩,⟨4,.phase⟩,⟨5,.phase⟩,⟨6,.phase⟩,⟨7,.phase⟩,⟨8,.phase⟩,⟨9,.phase⟩],none⟩) rfl (λJ D=> ?_) aab;go_simp;refine D _ _ (U _ (by first|(with_reducible assumption)|(with_reducible exact kd))) (λhHeld=> ?_);clear D J;try simp only[Act.put,aS,aP,aQ]
    refine ama jK ?_ _)
   all_goals (
    have mO:Hid (RuL w.heap.size X w #[.string nm,.int .i64 k,.int .i64 n,.slice (some ⟨Y,off,none⟩) K uc] #[.string nm,.int .i64 k,.int .i64 n,.slice (some ⟨gb,0,none⟩) (q+1) cap] cs (.slice (some ⟨gb,0,none⟩) (q+1) cap) (q+1) (w8.setCell ⟨X,3,none⟩ (.slice (some ⟨gb,0,none⟩) (q+1) cap))):=by have hR8:=C.rb.kept DC (λe=>YZ C.row C.rb jD e.symm);have hZ8:=C.zb.kept DC (λe=>YZ C.row C.zb jD e.symm);have tM:=C.xb.kept DC (λe=>YZ C.row C.xb jD e.symm);have he:=HXe.out;refine⟨hR8.other jO 3 _,hZ8.other jO 3 _,tM.set 3 _,?_,(C.Zs.grown DC (ace C.rb.lt) (λk e=>by have:=(C.row.lt k e).1;omega)).setCell (p:=⟨X,3,none⟩) (ace hsX) _,he.symm⟩;rw[wD.out];exact ZV Im tM jD 3 _
    clear Z C DC Im k9 jG k8 k7 c8 f8 x7 x8;go_wp2_with fail;go_roundg (K-q)
    (case measure=>omega)
    (case rel=>exact⟨q+1,_,jO,jO,by go_num,mO⟩))
  ·obtain rfl:q=K:=by omega
   have Y8:¬(q:Int)<(q:Int):=jO;have oK:Hid (cs.take q=cs):=abd (by rw[HK.out];exact aR _);obtain⟨⟨x0,x1,x2,x3⟩,_⟩:=Z8 Z.xb;obtain⟨⟨z0,z1,z2,z3⟩,f0,f1,f2,f3⟩:=Z8 Z.zb;go_wp2_with fail;have hz:=Z.zb;refine aag (M5 rfl (.inr (.inl rfl)) (ZG hz _ _ _ _) rfl) rfl ?_;refine⟨_,rfl,?_,ZF Z.Zs jO _ _ _ _⟩;have hrow:=Z.row;rw[oK.out] at hrow;exact Zd (ZV (ZV (ZV (ZV hrow hz jD 0 _) (hz.set 0 _) jD 1 _) ((hz.set 0 _).set 1 _) jD 2 _) (((hz.set 0 _).set 1 _).set 2 _) jD 3 _) jO
@[go_sem] abbrev oJ:Oper:=⟨some 23,.load 49 (.tmp 22),49,"top.go:20",#[⟨0,.data⟩],none⟩
@[go_sem] abbrev dT:Oper:=⟨some 29,.call {callee:=.value (.func 28),args:=#[.tmp 28],argTypes:=#[34]},91,"top.go:20",#[⟨6,.data⟩],none⟩
@[go_sem] abbrev oI:Oper:=⟨some 30,.buildSlice 49 1 #[(0,.tmp 29)],49,"top.go:20",#[⟨7,.data⟩],none⟩
abbrev EF:Nat:=37
theorem SH{lo B t:Nat} {v:Value}{rs:List Z0.ZJ}{cs:Array Value}(h:Z0.YW TR TC lo W v rs)(A:Z7 W B t cs)(C:TR≠t)(J:TC≠t)(j:Nat)(u:Value):Z0.YW TR TC lo (W.setCell ⟨B,j,none⟩ u) v rs:=by
 obtain⟨us,e1,e2,e3⟩:=h;exact⟨us,e1,ZV e2 A C j u,λI D r hu hr=>ZV (e3 I D r hu hr) A J j u⟩
theorem oH{lo lo':Nat} {v:Value}{rs:List Z0.ZJ}(h:Z0.YW TR TC lo W v rs)(hl:lo'<=lo):Z0.YW TR TC lo' W v rs:=by
 obtain⟨us,e1,e2,e3⟩:=h;exact⟨us,e1,Zd e2 hl,λC A r hu hr=>Zd (e3 C A r hu hr) hl⟩
structure OfL(s X:Nat)(w:World)(pc xc:Array Value)(rs:List Z0.ZJ)(u:Value)(q:Nat)(W:World):Prop where
 pb:Z7 W s EF pc
 zb:Z7 W (s+1) VZ #[.int .i64 0,.int .i64 0,.bool false,.slice none 0 0]
 xb:Z7 W X VZ xc
 row:Z0.YW TR TC (X+1) W u (rs.take q)
 Zs:Below s w W
 hX:X=s+1+1
section
variable {s X q:Nat} {w W W':World} {pc xc:Array Value} {rs:List Z0.ZJ} {u:Value}
theorem OfL.to(h:OfL s X w pc xc rs u q W)(hb:Below W.heap.size W W'):OfL s X w pc xc rs u q W':=
 ⟨h.pb.below hb h.pb.lt,h.zb.below hb h.zb.lt,h.xb.below hb h.xb.lt,h.row.below hb,h.Zs.trans (hb.mono (ace h.pb.lt)),h.hX⟩
end
theorem take_len{α:Type}{l:List α}{q:Nat}(A:l.length=K)(h:q<=K):(l.take q).length=q:=by rw[abg];omega
theorem xQ {k n:Int}{x:Bool}{ra:Option Addr}{rc:Nat}{rs:List Z0.ZJ}(A:rs.length=K)(hl:K<=1000000)(hcs:∀r∈rs,r.conds.length<=1000000)(w:World)(hN:N<=w.heap.size)(h:Z0.Yd N w (.slice ra K rc) rs):
 Calls prog 11 #[.agg #[.int .i64 k,.int .i64 n,.bool x,.slice ra K rc]] w λe w'=>∃u,e=.returned (.agg #[.int .i64 k,.int .i64 n,.bool x,u])/\Z0.YW TR TC w.heap.size w' u rs/\Below w.heap.size w w':=by
 have HK:=aT A;have HCs:=aT hcs;obtain⟨a',c',he,h⟩:=h;rw[A] at he;obtain⟨rfl,rfl⟩:ra=a'/\rc=c':=by injection he with h1 h2 h3;exact⟨h1,h3⟩
 have HC:=aT h;clear he;obtain⟨i0,XX,SC,Vo,TD⟩:=RP rF;obtain⟨w1,Jg⟩:∃z,w.alloc (.cells #[.int .i64 k,.int .i64 n,.bool x,.slice ra K rc] EF)=z:=⟨_,rfl⟩;obtain⟨w2,hw2⟩:∃z,w1.alloc (.cells #[.int .i64 0,.int .i64 0,.bool false,.slice none 0 0] VZ)=z:=⟨_,rfl⟩;obtain⟨w3,hw3⟩:∃z,w2.alloc (.cells #[.int .i64 k,.int .i64 n,.bool x,.slice none 0 0] VZ)=z:=⟨_,rfl⟩;have s1:w1.heap.size=w.heap.size+1:=by rw[<-Jg,ah]
 have s2:w2.heap.size=w.heap.size+1+1:=by rw[<-hw2,ah,s1]
 have Fu:Hid (OfL w.heap.size (w.heap.size+1+1) w #[.int .i64 k,.int .i64 n,.bool x,.slice ra K rc] #[.int .i64 k,.int .i64 n,.bool x,.slice none 0 0] rs (.slice none 0 0) 0 w3):=by
  have b3:Below w2.heap.size w2 w3:=by rw[<-hw3];exact Yl w2 _
  have b2:Below w1.heap.size w1 w3:=by
   have:Below w1.heap.size w1 w2:=by rw[<-hw2];exact Yl w1 _
   exact this.trans (b3.mono this.size)
  have b1:Below w.heap.size w w3:=by
   have:Below w.heap.size w w1:=by rw[<-Jg];exact Yl w _
   exact this.trans (b2.mono this.size)
  have B0:Z7 w3 w.heap.size EF #[.int .i64 k,.int .i64 n,.bool x,.slice ra K rc]:=(by rw[<-Jg];exact Z7.new w _ _:Z7 w1 w.heap.size EF #[.int .i64 k,.int .i64 n,.bool x,.slice ra K rc]).below b2 jO;have B1:Z7 w3 w1.heap.size VZ #[.int .i64 0,.int .i64 0,.bool false,.slice none 0 0]:=(by rw[<-hw2];exact Z7.new w1 _ _:Z7 w2 w1.heap.size VZ #[.int .i64 0,.int .i64 0,.bool false,.slice none 0 0]).below b3 jO;have B2:Z7 w3 w2.heap.size VZ #[.int .i64 k,.int .i64 n,.bool x,.slice none 0 0]:=by rw[<-hw3];exact Z7.new w2 _ _
  rw[s1] at B1;rw[s2] at B2;exact⟨B0,B1,B2,Z0.YW.nil _ _ _ _,b1,rfl⟩
 have HW:=aT (And.intro Jg (And.intro hw2 hw3));clear A h Jg hw2 hw3 s1 s2 hcs;go_enter func11,ntmps11;go_upto_region 3 with fail;rw[HW.out.1,HW.out.2.1,HW.out.2.2];clear HW;obtain⟨X,hX⟩:=jX (w.heap.size+1+1);rw[hX] at Fu ⊢;have HXe:=aT hX;have hsX:w.heap.size<X:=jO;clear hX;go_loopg [4] (K+1) (λgg s4 wr=>∃(q:Nat) (u:Value),q<=K/\K-q<gg/\s4=.int .i64 (q:Int)/\Hid (OfL w.heap.size X w #[.int .i64 k,.int .i64 n,.bool x,.slice ra K rc] #[.int .i64 k,.int .i64 n,.bool x,u] rs u q wr));case atStart=>exact⟨0,_,abc _,jO,rfl,Fu⟩
 case round=>
  obtain⟨q,u,hqK,VP,rfl,U⟩:=hrel;clear Fu;have q0':=jZ q;obtain⟨⟨b0,b1,b2,b3⟩,_⟩:=Z8 U.pb;obtain⟨xa,xc,hu⟩:=U.row.slice;rw[take_len HK.out hqK] at hu;subst hu;by_cases hlt:q<K
  ·have Y8:(q:Int)<(K:Int):=by omega
   have kF:=jW q;obtain⟨⟨nm,rk,rn,cs⟩,hc⟩:∃c,rs[q]? =some c:=⟨_,aM (by rw[HK.out];exact hlt)⟩;obtain⟨gu,off,ua,uc,rfl,D3,c0,c1,c2,c3,lJ⟩:=HC q _ hc;have IG:cs.length<=1000000:=HCs _ (af hc);dsimp only at c0 c1 c2 c3 lJ;obtain⟨CL,hCL⟩:=jX cs.length;rw[hCL] at c3 IG;have fF:gu<w.heap.size:=adf D3 hN;have wD:Hid (rs.take (q+1)=rs.take q++[⟨nm,rk,rn,cs⟩]):=by show _=_;rw[afb,hc];rfl
   have NG:Hid (∀W:World,Below X wr W->W.cell? ⟨w.heap.size,3,none⟩=some (.slice (some ⟨gu,off,none⟩) K rc)/\W.cell? ⟨gu,off+q*4,none⟩=some (.string nm)/\W.cell? ⟨gu,off+q*4+1,none⟩=some (.int .i64 rk)/\W.cell? ⟨gu,off+q*4+2,none⟩=some (.int .i64 rn)/\W.cell? ⟨gu,off+q*4+3,none⟩=some (.slice ua CL uc)):=λW hW=>by
    have ce:∀j v,w.cell? ⟨gu,j,none⟩=some v->W.cell? ⟨gu,j,none⟩=some v:=λj v hv=>(hW.cell (p:=⟨gu,j,none⟩) (show gu<X from jO)).trans ((U.Zs.cell (p:=⟨gu,j,none⟩) fF).trans hv)
    exact⟨(hW.cell (p:=⟨w.heap.size,3,none⟩) hsX).trans b3,ce _ _ c0,ce _ _ c1,ce _ _ c2,ce _ _ c3⟩
   have my:Hid (∀W,Below wr.heap.size wr W->Calls prog 28 #[.agg #[.string nm,.int .i64 rk,.int .i64 rn,.slice ua CL uc]] W λe w'=>∃u,e=.returned (.agg #[.string nm,.int .i64 rk,.int .i64 rn,u])/\w'.ownsRow W.heap.size TC 4 u CL (Z0.Wm cs)/\Below W.heap.size W w'):=λW hW=>
    uw hCL IG W (aO hN (aO U.Zs.size hW.size)) ((lJ.below U.Zs hN).below hW (aO hN U.Zs.size))
   have CP:=aT hCL;have iF:X<wr.heap.size:=U.xb.lt;have kd:Below X wr wr.drew:=(aH X wr).drew;have kdw:Below wr.heap.size wr wr.drew:=(aH _ wr).drew;have x3:wr.cell? ⟨X,3,none⟩=some (.slice xa q xc):=U.xb.cell 3;clear c0 c1 c2 c3 hc b0 b1 b2 lJ hCL;go_upto_region 5 with fail;refine akd (S:=λw'=>w'.cell? ⟨w.heap.size,3,none⟩=some (.slice (some ⟨gu,off,none⟩) K rc)/\w'.cell? ⟨gu,off+q*4,none⟩=some (.string nm)/\w'.cell? ⟨gu,off+q*4+1,none⟩=some (.int .i64 rk)/\w'.cell? ⟨gu,off+q*4+2,none⟩=some (.int .i64 rn)/\w'.cell? ⟨gu,off+q*4+3,none⟩=some (.slice ua CL uc)) jK (NG _ (by first|(with_reducible assumption)|(with_reducible exact kd))) (λhHeld=> ?_);refine jT 0 ⟨some 22,.fieldAddr 51 (.tmp 3) 2,0,"top.go:20",#[],none⟩ ?_;try simp only[Act.put,aS,aP,aQ]
   refine jT 2 ⟨some 24,.fieldAddr 37 (.tmp 1) 2,0,"top.go:20",#[],none⟩ ?_;try simp only[Act.put,aS,aP,aQ]
   refine jT 3 ⟨some 25,.load 35 (.tmp 24),35,"top.go:20",#[⟨2,.data⟩],none⟩ ?_;try simp only[Act.put,aS,aP,aQ]
   refine jT 4 ⟨some 26,.move (.tmp 4),3,"top.go:20",#[],none⟩ ?_;try simp only[Act.put,aS,aP,aQ]
   refine jT 5 ⟨some 27,.indexAddr 35 (.tmp 25) (.tmp 26),0,"top.go:20",#[⟨3,.data⟩,⟨4,.data⟩],none⟩ ?_;try simp only[Act.put,aS,aP,aQ]
   refine jT 6 ⟨some 28,.load 34 (.tmp 27),34,"top.go:20",#[⟨5,.data⟩],none⟩ ?_;try simp only[Act.put,aS,aP,aQ]
   refine aaf (rs:=[1,7]) jK jS ?_;refine ag (o:=oJ) rfl (λY A=> ?ad1) (ag (o:=dT) rfl (λY A=> ?ad2) aab)
   case' ad1=>
    go_simp;refine A _ _ hHeld (λhHeld=> ?_);clear A Y;try simp only[Act.put,aS,aP,aQ]
    refine aaf (rs:=[7]) jK jS ?_;refine ag (o:=dT) rfl (λY A=> ?aC9) aab;go_simp;refine(my _ kdw).mono ?_;rintro e Z ⟨un,rfl,J,Sm⟩;obtain⟨I,D,rfl⟩:=Z1 J;have T:Below wr.heap.size wr Z:=(aH _ wr).drew.trans Sm;have k7:Below X wr Z:=T.mono (ace iF);have oL:=T.trans ((Yl Z (.cells #[.string nm,.int .i64 rk,.int .i64 rn,.slice I CL D] TR)).mono T.size);have k8:Below X wr (Z.alloc (.cells #[.string nm,.int .i64 rk,.int .i64 rn,.slice I CL D] TR)):=oL.mono (ace iF);have C:=aT (U.to oL);have HI7:=aT (U.to T);have HNw:=aT (Zd J (show X+1<=wr.heap.size from jO));have x7:Z.cell? ⟨X,3,none⟩=some (.slice xa q xc):=(U.to T).xb.cell 3;have x8:(Z.alloc (.cells #[.string nm,.int .i64 rk,.int .i64 rn,.slice I CL D] TR)).cell? ⟨X,3,none⟩=some (.slice xa q xc):=C.xb.cell 3;have hs8:X+1<=(Z.alloc (.cells #[.string nm,.int .i64 rk,.int .i64 rn,.slice I CL D] TR)).heap.size:=C.xb.lt;obtain⟨us,mr,yb,hu3⟩:=HI7.row;rw[take_len HK.out hqK] at mr yb;have HU1:=aT mr;have HU2:=aT yb;have HU3:=aT hu3;have Ut:=aT (ZE yb (Yl Z (.cells #[.string nm,.int .i64 rk,.int .i64 rn,.slice I CL D] TR)));clear mr yb hu3 J;refine A _ _ (NG _ (by first|(with_reducible assumption)|(with_reducible exact kd))) (λhHeld=> ?_);clear A Y;try simp only[Act.put,aS,aP,aQ]
    refine aaf (rs:=[8]) jK jS ?_;refine ag (o:=oI) rfl (λY A=> ?aD0) aab;go_simp;refine A _ _ (NG _ (by first|(with_reducible assumption)|(with_reducible exact kd))) (λhHeld=> ?_);clear A Y;try simp only[Act.put,aS,aP,aQ]
   case' ad2=>
    go_simp;refine(my _ kdw).mono ?_;rintro e Z ⟨un,rfl,J,Sm⟩;obtain⟨I,D,rfl⟩:=Z1 J;have T:Below wr.heap.size wr Z:=(aH _ wr).drew.trans Sm;have k7:Below X wr Z:=T.mono (ace iF);have oL:=T.trans ((Yl Z (.cells #[.string nm,.int .i64 rk,.int .i64 rn,.slice I CL D] TR)).mono T.size);have k8:Below X wr (Z.alloc (.cells #[.string nm,.int .i64 rk,.int .i64 rn,.slice I CL D] TR)):=oL.mono (ace iF);have C:=aT (U.to oL);have HI7:=aT (U.to T);have HNw:=aT (Zd J (show X+1<=wr.heap.size from jO));have x7:Z.cell? ⟨X,3,none⟩=some (.slice xa q xc):=(U.to T).xb.cell 3;have x8:(Z.alloc (.cells #[.string nm,.int .i64 rk,.int .i64 rn,.slice I CL D] TR)).cell? ⟨X,3,none⟩=some (.slice xa q xc):=C.xb.cell 3;have hs8:X+1<=(Z.alloc (.cells #[.string nm,.int .i64 rk,.int .i64 rn,.slice I CL D] TR)).heap.size:=C.xb.lt;obtain⟨us,mr,yb,hu3⟩:=HI7.row;rw[take_len HK.out hqK] at mr yb;have HU1:=aT mr;have HU2:=aT yb;have HU3:=aT hu3;have Ut:=aT (ZE yb (Yl Z (.cells #[.string nm,.int .i64 rk,.int .i64 rn,.slice I CL D] TR)));clear mr yb hu3 J;refine A _ _ (NG _ (by first|(with_reducible assumption)|(with_reducible exact kd))) (λhHeld=> ?_);clear A Y;try simp only[Act.put,aS,aP,aQ]
    refine aaf (rs:=[1,8]) jK jS ?_;refine ag (o:=oJ) rfl (λY A=> ?ad3) (ag (o:=oI) rfl (λY A=> ?ad4) aab)
   case' ad3=>
    go_simp;refine A _ _ hHeld (λhHeld=> ?_);clear A Y;try simp only[Act.put,aS,aP,aQ]
    refine aaf (rs:=[8]) jK jS ?_;refine ag (o:=oI) rfl (λY A=> ?aD1) aab;go_simp;refine A _ _ (NG _ (by first|(with_reducible assumption)|(with_reducible exact kd))) (λhHeld=> ?_);clear A Y;try simp only[Act.put,aS,aP,aQ]
   case' ad4=>
    go_simp;refine A _ _ (NG _ (by first|(with_reducible assumption)|(with_reducible exact kd))) (λhHeld=> ?_);clear A Y;try simp only[Act.put,aS,aP,aQ]
    refine aaf (rs:=[1]) jK jS ?_;refine ag (o:=oJ) rfl (λY A=> ?aD2) aab;go_simp;refine A _ _ hHeld (λhHeld=> ?_);clear A Y;try simp only[Act.put,aS,aP,aQ]
   all_goals (
    refine aaf (rs:=[9]) jK jS ?_;refine ag (o:=⟨some 31,.call {callee:=.builtin .append,args:=#[.tmp 23,.tmp 30],argTypes:=#[49,49]},49,"top.go:20",#[⟨1,.data⟩,⟨8,.data⟩,⟨7,.chain⟩],none⟩) rfl (λY A=> ?_) aab;refine step_append_lies _ rfl _ _ 49 rfl (X+1) TR i0 (.agg #[.string ⟨#[]⟩,.int .i64 0,.int .i64 0,.slice none 0 0]) 4 56 underlying49 XX SC Vo TD rfl jD (.slice xa q xc) q (Z0.Yi (rs.take q) us) rfl Ut ⟨Z.heap.size,0,none⟩ 1 1 [.string nm,.int .i64 rk,.int .i64 rn,.slice I CL D] rfl rfl (World.news_of_block (Z7.new Z _ _)) (by simp[Value.oneCell']) jD (by unfold maxLen;omega) jO hs8 _ rfl ?_;intro gb cap w8 Mv LG Kp ku;have tM:=C.xb.kept LG (λe=>YZ Ut C.xb jD e.symm);have c8:w8.cell? ⟨X,3,none⟩=some (.slice xa q xc):=tM.cell 3;have f8:=tM.frozen 3;have k9:Below X wr w8:=k8.grown LG (ace hs8) (λk e=>by have:=(Ut.lt k e).1;omega);have jG:=k9.setCell (p:=⟨X,3,none⟩) (aR X) (.slice (some ⟨gb,0,none⟩) (q+1) cap);have DC:=aT LG;have Im:=aT Mv;clear LG Mv Kp tM;refine A _ _ (NG _ (by first|(with_reducible assumption)|(with_reducible exact kd))) (λhHeld=> ?_);clear A Y;try simp only[Act.put,aS,aP,aQ]
    refine jT 10 ⟨some 32,.fieldAddr 51 (.tmp 3) 2,0,"top.go:20",#[⟨0,.phase⟩,⟨1,.phase⟩,⟨2,.phase⟩,⟨3,.phase⟩,⟨4,.phase⟩,⟨5,.phase⟩,⟨6,.phase⟩,⟨7,.phase⟩,⟨8,.phase⟩,⟨9,.phase⟩],none⟩ ?_;try simp only[Act.put,aS,aP,aQ]
    refine aaf (rs:=[11]) jK jS ?_;refine ag (o:=⟨none,.store 49 (.tmp 32) (.tmp 31),0,"top.go:20",#[⟨10,.data⟩,⟨9,.data⟩,⟨9,.chain⟩,⟨0,.phase⟩,⟨1,.phase⟩,⟨2,.phase⟩,⟨3,.phase⟩,⟨4,.phase⟩,⟨5,.phase⟩,⟨6,.phase⟩,⟨7,.phase⟩,⟨8,.phase⟩,⟨9,.phase⟩],none⟩) rfl (λY A=> ?_) aab;go_simp;refine A _ _ (NG _ (by first|(with_reducible assumption)|(with_reducible exact kd))) (λhHeld=> ?_);clear A Y;try simp only[Act.put,aS,aP,aQ]
    refine ama jK ?_ _)
   all_goals (
    have mO:Hid (OfL w.heap.size X w #[.int .i64 k,.int .i64 n,.bool x,.slice (some ⟨gu,off,none⟩) K rc] #[.int .i64 k,.int .i64 n,.bool x,.slice (some ⟨gb,0,none⟩) (q+1) cap] rs (.slice (some ⟨gb,0,none⟩) (q+1) cap) (q+1) (w8.setCell ⟨X,3,none⟩ (.slice (some ⟨gb,0,none⟩) (q+1) cap))):=by have hR8:=C.pb.kept DC (λe=>YZ Ut C.pb jD e.symm);have hZ8:=C.zb.kept DC (λe=>YZ Ut C.zb jD e.symm);have tM:=C.xb.kept DC (λe=>YZ Ut C.xb jD e.symm);have he:=HXe.out;refine⟨hR8.other jO 3 _,hZ8.other jO 3 _,tM.set 3 _,?_,(C.Zs.grown DC (ace C.pb.lt) (λk e=>by have:=(Ut.lt k e).1;omega)).setCell (p:=⟨X,3,none⟩) (ace hsX) _,he.symm⟩;rw[wD.out];exact Z0.zT (us:=us) (by rw[HU1.out,take_len HK.out hqK]) (by rw[take_len HK.out hqK];exact HU2) HU3 (by rw[CP.out];exact HNw) DC (by rw[take_len HK.out hqK];exact Im)
    clear U C HI7 DC Im HU1 HU2 HU3 Ut HNw k9 jG k8 k7 c8 f8 x7 x8;go_wp2_with fail;go_roundg (K-q)
    (case measure=>omega)
    (case rel=>exact⟨q+1,_,jO,jO,by go_num,mO⟩))
  ·obtain rfl:q=K:=by omega
   have Y8:¬(q:Int)<(q:Int):=jO;have oK:Hid (rs.take q=rs):=abd (by rw[HK.out];exact aR _);obtain⟨⟨x0,x1,x2,x3⟩,_⟩:=Z8 U.xb;obtain⟨⟨z0,z1,z2,z3⟩,f0,f1,f2,f3⟩:=Z8 U.zb;go_wp2_with fail;have hz:=U.zb;refine aag (M5 rfl (.inr (.inr rfl)) (ZG hz _ _ _ _) rfl) rfl ?_;refine⟨_,rfl,?_,ZF U.Zs jO _ _ _ _⟩;have hrow:=U.row;rw[oK.out] at hrow;exact oH (SH (SH (SH (SH hrow hz jD jD 0 _) (hz.set 0 _) jD jD 1 _) ((hz.set 0 _).set 1 _) jD jD 2 _) (((hz.set 0 _).set 1 _).set 2 _) jD jD 3 _) jO
end Go.Proofs.YtclgigmgbebhgaaGreatDoor
