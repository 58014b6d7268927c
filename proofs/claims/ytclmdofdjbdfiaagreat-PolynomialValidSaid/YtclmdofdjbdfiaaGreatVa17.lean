/- Part 17 of the proof of polynomialValid_holds. No condition. -/
import Derived.Test.YtclmdofdjbdfiaaGreatVa2
import Derived.Test.YtclmdofdjbdfiaaGreatVa3
import Derived.Test.YtclmdofdjbdfiaaGreatVa9
import Derived.Test.YtclmdofdjbdfiaaGreatVa14
import Derived.Test.YtclmdofdjbdfiaaGreatVa15
import Derived.Test.YtclmdofdjbdfiaaGreatVa16
set_option linter.unusedSimpArgs false
set_option linter.unusedVariables false
set_option maxRecDepth 100000
set_option maxHeartbeats 2000000
namespace Go.Proofs.YtclmdofdjbdfiaaGreat
open Go.RowKit
theorem AN {P : Program} {f : FuncId} {fn : Func} (hf : P.funcs[f]? = some fn) (hn : (fn.name == "runtime.NumGoroutine") = false) (hb : fn.body.isNone = false) (args : Array Value) (w : World) : (callFunc f args).run P w = .ok (.enter f args) w := by
 have:(program).run P w = .ok P w:=rfl
 have hn' : ¬ fn.name = "runtime.NumGoroutine" := by simpa using hn
 have hb':¬fn.body=none:=λe=>by rw [e] at hb;cases hb
 simp [callFunc,this,hf,hn',hb']
theorem Bf{P:Program}{f:FuncId}{ds:List D}{r:D}(hcf:∀args w,(callFunc f args).run P w = .ok (.enter f args) w)(h:∀(s:GS) (vs:List Value),s.Ok->vs.length=ds.length->(∀k,k<ds.length->(CX ds k).rel s (vs.getD k undef)) ->
  Calls P f vs.toArray s.w λe w'=>∃v,e = .returned v/\Ext s.w w'/\∀s':GS,s'.w=w'->s'.Ok->(∀b k,s.w.heap.size<=b->b<w'.heap.size->s'.S b k)->GS.Le s s'->r.rel s' v):Abs P f ds r:=by
 refine ⟨hcf,λs vs hok hl hv=>(h s vs hok hl hv).mono λe w' ⟨v,he,hE,hr⟩=>⟨v,he,s.grown w',rfl,ES hE,?_⟩⟩
 exact hr _ rfl ((ES hE).ok hok) (λb k h1 h2=>.inr ⟨h1,h2⟩) (ES hE)
theorem Rr{vs:List Value}(h:vs.length=1):vs=[vs.getD 0 undef]:=by
 match vs,h with
 | [a],_=>rfl
theorem Rq{vs:List Value}(h:vs.length=2):vs=[vs.getD 0 undef,vs.getD 1 undef]:=by
 match vs,h with
 | [a,b],_=>rfl
theorem Vv{vs:List Value}(h:vs.length=3):vs=[vs.getD 0 undef,vs.getD 1 undef,vs.getD 2 undef]:=by
 match vs,h with
 | [a,b,c],_=>rfl
def wD(l:List Nat):D:=⟨λs v=>(slD 84 1 (l.map λx=>[ex (.int .u32 (x:Nat))])).rel s v/\AI l,λh hc=>⟨(slD _ _ _).st h.1 hc,h.2⟩⟩
theorem FF{s:GS}{v:Value}{l:List Nat}(h:(wD l).rel s v):Words s.w v l:=by
 obtain ⟨⟨A,c,h1,h2,h3,h4⟩,hs⟩:=h
 simp only [List.length_map] at h1 h2 h4
 refine ⟨A,c,h1,h2,h3,hs,λh0=>?_⟩
 obtain ⟨b,o,h5,h6⟩:=h4 h0
 obtain ⟨_,cs,fz,h7,h8⟩:=h6 0 h0
 refine ⟨b,o,cs,fz,h5,.of h7,λi hi=>?_⟩
 obtain ⟨h9,cs',fz',h10,h11⟩:=h6 i hi
 rw [h7] at h10
 cases h10
 obtain ⟨_,u,h12,_,h13⟩:=h11 0 (by rw [h9];omega)
 have e:CX ((l.map λx=>[ex (.int .u32 (x:Nat))]).getD i []) 0=ex (.int .u32 (l[i]:Nat)):=by simp [CX,hi]
 rw [e] at h13
 have h13:u=_:=h13
 rw [Nat.mul_one,Nat.add_zero] at h12
 rw [h12,h13]
theorem FE{s:GS}{v:Value}{l:List Nat}(hok:s.Ok)(h:Words s.w v l):(wD l).rel s v:=by
 obtain ⟨A,c,h1,h2,h3,hs,h4⟩:=h
 refine ⟨⟨A,c,by rw [List.length_map];exact h1,by rw [List.length_map];exact h2,h3,λh0=>?_⟩,hs⟩
 rw [List.length_map] at h0
 obtain ⟨b,o,cs,fz,h5,h6',h7⟩:=h4 h0
 have h6:=h6'.out
 refine ⟨b,o,h5,λk hk=>?_⟩
 rw [List.length_map] at hk
 have e:(l.map λx=>[ex (.int .u32 (x:Nat))]).getD k []=[ex (.int .u32 (l[k]:Nat))]:=by simp [hk]
 rw [e]
 refine ⟨rfl,cs,fz,h6,λj hj=>?_⟩
 obtain rfl:j=0:=by simp at hj;omega
 rw [Nat.mul_one,Nat.add_zero]
 exact ⟨hok.safe b _ ⟨cs,fz,h6⟩,_,h7 k hk,rfl,rfl⟩
def NV(z:Int):List D:=[ex (.bool (decide (z<0))),wD (Af z.natAbs)]
def CL(q:Rat):List D:=[ex (.bool (decide (q.num<0))),wD (Af q.num.natAbs),ex (.bool (decide ((q.den:Int)<0))),wD (Af (q.den:Int).natAbs)]
theorem GU{s:GS}{v:Value}{l:List Nat}(h:(wD l).rel s v):∃A n c,v = .slice A n c:=by
 obtain ⟨A,c,h1,_⟩:=h.1
 exact ⟨A,_,c,h1⟩
theorem Vu{s:GS}{v:Value}{d0 d1:D}(h:(BX [d0,d1]).rel s v):∃u0 u1,v = .agg #[u0,u1]/\d0.rel s u0/\d1.rel s u1:=by
 obtain ⟨cs,rfl,h1,h2⟩:=h
 obtain ⟨u0,e0,_,r0⟩:=h2 0 (by simp)
 obtain ⟨u1,e1,_,r1⟩:=h2 1 (by simp)
 refine ⟨u0,u1,?_,r0,r1⟩
 congr 1
 refine Array.ext (by simpa using h1) λi q1 q2=>?_
 simp at q2
 match i,q2 with
 | 0,_=>exact Option.some.inj ((Array.getElem?_eq_getElem q1).symm.trans e0)
 | 1,_=>exact Option.some.inj ((Array.getElem?_eq_getElem q1).symm.trans e1)
theorem Vy{s:GS}{v:Value}{d0 d1 d2 d3:D}(h:(BX [d0,d1,d2,d3]).rel s v):∃u0 u1 u2 u3,v = .agg #[u0,u1,u2,u3]/\d0.rel s u0/\d1.rel s u1/\d2.rel s u2/\d3.rel s u3:=by
 obtain ⟨cs,rfl,h1,h2⟩:=h
 obtain ⟨u0,e0,_,r0⟩:=h2 0 (by simp)
 obtain ⟨u1,e1,_,r1⟩:=h2 1 (by simp)
 obtain ⟨u2,e2,_,r2⟩:=h2 2 (by simp)
 obtain ⟨u3,e3,_,r3⟩:=h2 3 (by simp)
 refine ⟨u0,u1,u2,u3,?_,r0,r1,r2,r3⟩
 congr 1
 refine Array.ext (by simpa using h1) λi q1 q2=>?_
 simp at q2
 match i,q2 with
 | 0,_=>exact Option.some.inj ((Array.getElem?_eq_getElem q1).symm.trans e0)
 | 1,_=>exact Option.some.inj ((Array.getElem?_eq_getElem q1).symm.trans e1)
 | 2,_=>exact Option.some.inj ((Array.getElem?_eq_getElem q1).symm.trans e2)
 | 3,_=>exact Option.some.inj ((Array.getElem?_eq_getElem q1).symm.trans e3)
theorem Vg{s:GS}{v:Value}{l:List Value}(h:(BX (l.map ex)).rel s v):v = .agg l.toArray:=by
 obtain ⟨cs,rfl,h1,h2⟩:=h
 congr 1
 refine Array.ext (by simpa using h1) λi q1 q2=>?_
 simp at q2
 obtain ⟨u,e,_,r⟩:=h2 i (by simpa using q2)
 have e2:CX (l.map ex) i=ex l[i]:=by simp [CX,q2]
 rw [e2] at r
 have r:u=l[i]:=r
 rw [Array.getElem?_eq_getElem q1] at e
 rw [Option.some.inj e,r]
 simp
theorem CM{s:GS}{v:Value}{q:Rat}(h:(BX (CL q)).rel s v):∃(b b':Bool) (A A':Option Addr) (n c n' c':Nat),v = .agg #[.bool b,.slice A n c,.bool b',.slice A' n' c']/\IsRat s.w (.bool b) (.slice A n c) (.bool b') (.slice A' n' c') q:=by
 obtain ⟨u0,u1,u2,u3,rfl,h0,h1,h2,h3⟩:=Vy h
 obtain rfl:u0=_:=h0
 obtain rfl:u2=_:=h2
 obtain ⟨A,n,c,rfl⟩:=GU h1
 obtain ⟨A',n',c',rfl⟩:=GU h3
 exact ⟨_,_,A,A',n,c,n',c',rfl,⟨rfl,FF h1⟩,⟨rfl,FF h3⟩⟩
theorem Fn{s:GS}{q:Rat}{b b':Bool}{A A':Option Addr}{n c n' c':Nat}(hok:s.Ok)(h:IsRat s.w (.bool b) (.slice A n c) (.bool b') (.slice A' n' c') q):(BX (CL q)).rel s (.agg #[.bool b,.slice A n c,.bool b',.slice A' n' c']):=by
 obtain ⟨⟨h1,h2⟩,h3,h4⟩:=h
 refine ⟨_,rfl,rfl,λk hk=>?_⟩
 have hk:k<4:=hk
 match k,hk with
 | 0,_=>exact ⟨_,rfl,rfl,h1⟩
 | 1,_=>exact ⟨_,rfl,rfl,FE hok h2⟩
 | 2,_=>exact ⟨_,rfl,rfl,h3⟩
 | 3,_=>exact ⟨_,rfl,rfl,FE hok h4⟩
theorem Gr{s:GS}{v:Value}{z:Int}(h:(BX (NV z)).rel s v):∃(b:Bool) (A:Option Addr) (n c:Nat),v = .agg #[.bool b,.slice A n c]/\IsInt s.w (.bool b) (.slice A n c) z:=by
 obtain ⟨u0,u1,rfl,h0,h1⟩:=Vu h
 obtain rfl:u0=_:=h0
 obtain ⟨A,n,c,rfl⟩:=GU h1
 exact ⟨_,A,n,c,rfl,rfl,FF h1⟩
theorem Tu{s:GS}{z:Int}{b:Bool}{A:Option Addr}{n c:Nat}(hok:s.Ok)(h:IsInt s.w (.bool b) (.slice A n c) z):(BX (NV z)).rel s (.agg #[.bool b,.slice A n c]):=by
 obtain ⟨h1,h2⟩:=h
 refine ⟨_,rfl,rfl,λk hk=>?_⟩
 have hk:k<2:=hk
 match k,hk with
 | 0,_=>exact ⟨_,rfl,rfl,h1⟩
 | 1,_=>exact ⟨_,rfl,rfl,FE hok h2⟩
def BW(a:Nat->Int):List D:=[ex (.int .i64 (a 0)),ex (.int .i64 (a 1)),ex (.int .i64 (a 2)),ex (.int .i64 (a 3)),ex (.int .i64 (a 4)),ex (.int .i64 (a 5)),ex (.int .i64 (a 6)),ex (.int .i64 (a 7))]
theorem CO{s:GS}{v:Value}{a:Nat->Int}(h:(BX (BW a)).rel s v):v = .agg (c8 a):=Vg (l:=(c8 a).toList) h
theorem Hh{a:Nat->Int}{i:Nat}(h:i<8):CX (BW a) i=ex (.int .i64 (a i)):=by
 match i,h with
 | 0,_=>rfl
 | 1,_=>rfl
 | 2,_=>rfl
 | 3,_=>rfl
 | 4,_=>rfl
 | 5,_=>rfl
 | 6,_=>rfl
 | 7,_=>rfl
def GW(t:Tm):List D:=CL t.c++BW t.m
theorem HZ(q:Rat):(CL q).length=4:=rfl
theorem Ic(a:Nat->Int):(BW a).length=8:=rfl
theorem GF(t:Tm):(GW t).length=12:=rfl
theorem Ry(t:Tm):(GW t).drop 4=BW t.m:=rfl
theorem PO{s:GS}{cs:Array Value}{t:Tm}(hok:s.Ok)(h:TmV s.w cs t):∀k,k<12->∃u,cs[k]? = some u/\u.oneCell'=true/\(CX (GW t) k).rel s u:=by
 obtain ⟨b,b',A,A',n,c,n',c',rfl,⟨h1,h2⟩,h3,h4⟩:=h
 intro k hk
 match k,hk with
 | 0,_=>exact ⟨_,rfl,rfl,h1⟩
 | 1,_=>exact ⟨_,rfl,rfl,FE hok h2⟩
 | 2,_=>exact ⟨_,rfl,rfl,h3⟩
 | 3,_=>exact ⟨_,rfl,rfl,FE hok h4⟩
 | 4,_=>exact ⟨_,rfl,rfl,rfl⟩
 | 5,_=>exact ⟨_,rfl,rfl,rfl⟩
 | 6,_=>exact ⟨_,rfl,rfl,rfl⟩
 | 7,_=>exact ⟨_,rfl,rfl,rfl⟩
 | 8,_=>exact ⟨_,rfl,rfl,rfl⟩
 | 9,_=>exact ⟨_,rfl,rfl,rfl⟩
 | 10,_=>exact ⟨_,rfl,rfl,rfl⟩
 | 11,_=>exact ⟨_,rfl,rfl,rfl⟩
theorem QD{s:GS}{cs:Array Value}{t:Tm}(hsz:cs.size=12)(h:∀k,k<12->∃u,cs[k]? = some u/\u.oneCell'=true/\(CX (GW t) k).rel s u):TmV s.w cs t:=by
 obtain ⟨u0,e0,_,r0⟩:=h 0 (by omega)
 obtain ⟨u1,e1,_,r1⟩:=h 1 (by omega)
 obtain ⟨u2,e2,_,r2⟩:=h 2 (by omega)
 obtain ⟨u3,e3,_,r3⟩:=h 3 (by omega)
 obtain rfl:u0=_:=r0
 obtain rfl:u2=_:=r2
 obtain ⟨A,n,c,rfl⟩:=GU r1
 obtain ⟨A',n',c',rfl⟩:=GU r3
 have hm:∀i,i<8->cs[4+i]? = some (.int .i64 (t.m i)):=λi hi=>by
  obtain ⟨u,e,_,r⟩:=h (4+i) (by omega)
  have e2:CX (GW t) (4+i)=ex (.int .i64 (t.m i)):=by rw [<-Hh hi,<-Ry,Jw]
  rw [e2] at r
  rw [e]
  exact congrArg some r
 refine ⟨_,_,A,A',n,c,n',c',?_,⟨rfl,FF r1⟩,rfl,FF r3⟩
 refine Array.ext (by rw [hsz];rfl) λi q1 q2=>?_
 rw [hsz] at q1
 refine Option.some.inj ?_
 rw [<-Array.getElem?_eq_getElem,<-Array.getElem?_eq_getElem]
 match i,q1 with
 | 0,_=>exact e0
 | 1,_=>exact e1
 | 2,_=>exact e2
 | 3,_=>exact e3
 | 4,_=>exact hm 0 (by omega)
 | 5,_=>exact hm 1 (by omega)
 | 6,_=>exact hm 2 (by omega)
 | 7,_=>exact hm 3 (by omega)
 | 8,_=>exact hm 4 (by omega)
 | 9,_=>exact hm 5 (by omega)
 | 10,_=>exact hm 6 (by omega)
 | 11,_=>exact hm 7 (by omega)
def Bw(P:List Tm):D:=slD 33 12 (P.map GW)
theorem LY{P:List Tm}{k:Nat}(h:k<P.length):(P.map GW).getD k []=GW (AM P k):=by simp [AM,List.getD_eq_getElem?_getD,List.getElem?_eq_getElem h]
theorem Gk{s:GS}{v:Value}{P:List Tm}(h:(Bw P).rel s v):PolAt s.w v P:=by
 obtain ⟨A,c,h1,h2,h3,h4⟩:=h
 simp only [List.length_map] at h1 h2 h4
 refine ⟨A,c,h1,h2,h3,λh0=>?_⟩
 obtain ⟨b,o,h5,h6⟩:=h4 h0
 obtain ⟨_,cs,fz,h7,h8⟩:=h6 0 h0
 refine ⟨b,o,cs,fz,h5,h7,λk hk=>?_⟩
 obtain ⟨h9,cs',fz',h10,h11⟩:=h6 k hk
 rw [h7] at h10
 cases h10
 rw [LY hk] at h11
 refine ⟨cs.extract (o+k*12) (o+k*12+12),QD (s:=s) ?_ λj hj=>?_,λj hj=>?_⟩
 .obtain ⟨_, u, e, _⟩:=h11 11 (by simp [GF])
  have:=(Array.getElem?_eq_some_iff.1 e).1
  simp
  omega
 .obtain ⟨_,u,e,r1,r2⟩:=h11 j hj
  exact ⟨u,by rw [Array.getElem?_extract,if_pos (by have:=(Array.getElem?_eq_some_iff.1 e).1;obtain ⟨_,u',e',_⟩:=h11 11 (by simp [GF]);have:=(Array.getElem?_eq_some_iff.1 e').1;omega)];exact e,r1,r2⟩
 .obtain ⟨_, u', e', _⟩:=h11 11 (by simp [GF])
  have:=(Array.getElem?_eq_some_iff.1 e').1
  rw [Array.getElem?_extract,if_pos (by omega)]
theorem Te{s:GS}{v:Value}{P:List Tm}(hok:s.Ok)(h:PolAt s.w v P)(hS:∀b o,v=v->(∃n c,v = .slice (some ⟨b,o,none⟩) n c)->∀k,s.S b k):(Bw P).rel s v:=by
 obtain ⟨A,c,h1,h2,h3,h4⟩:=h
 refine ⟨A,c,by rw [List.length_map];exact h1,by rw [List.length_map];exact h2,h3,λh0=>?_⟩
 rw [List.length_map] at h0
 obtain ⟨b,o,cs,fz,h5,h6,h7⟩:=h4 h0
 subst h5
 refine ⟨b,o,rfl,λk hk=>?_⟩
 rw [List.length_map] at hk
 rw [LY hk]
 refine ⟨rfl,cs,fz,h6,λj hj=>⟨hS b o rfl ⟨_,_,h1⟩ _,?_⟩⟩
 obtain ⟨ts,h8,h9⟩:=h7 k hk
 obtain ⟨u,h10,h11,h12⟩:=PO hok h8 j hj
 exact ⟨u,(h9 j hj).trans h10,h11,h12⟩
theorem RI{w':World}{v:Value}{P:List Tm}{W:Nat}(h:OwnP W w' v P){s':GS}(hw:s'.w=w')(hok:s'.Ok)(hS:∀b k,W<=b->b<w'.heap.size->s'.S b k):(Bw P).rel s' v:=by
 subst hw
 refine Te hok h.pol λb o _ ⟨n,c,hv⟩ k=>?_
 obtain ⟨cl,h1,⟨h2,h3⟩,h4⟩:=h
 rcases h3 with ⟨e,_⟩ | ⟨g,cap,cur,e,h5,h6,_⟩
 .rw [e] at hv;cases hv
 .rw [e] at hv
  cases hv
  exact hS _ k h5 (AK h6)
theorem RQ{a b:Nat->Int}(h:Eqv a b):BW a=BW b:=by unfold BW;rw [h 0 (by omega),h 1 (by omega),h 2 (by omega),h 3 (by omega),h 4 (by omega),h 5 (by omega),h 6 (by omega),h 7 (by omega)]
theorem Uk{s t:Tm}(h:s.c=t.c)(h':Eqv s.m t.m):GW s=GW t:=by unfold GW;rw [h,RQ h']
theorem Qa{P Q:List Tm}(h:SameL P Q):Bw P=Bw Q:=by
 unfold Bw
 congr 1
 induction P generalizing Q with
 | nil=>cases Q with
  | nil=>rfl
  | cons=>exact h.elim
 | cons s P ih=>cases Q with
  | nil=>exact h.elim
  | cons t Q=>rw [List.map_cons,List.map_cons,Uk h.1 h.2.1,ih h.2.2]
theorem Vp{s:GS}{u v:Value}{x y:D}(hx:x.rel s u)(hy:y.rel s v):(Fm [x,y]).rel s (.tuple #[u,v]):=⟨_,rfl,rfl,λk hk=>by
 match k,hk with
 | 0,_=>exact ⟨_,rfl,hx⟩
 | 1,_=>exact ⟨_,rfl,hy⟩
 | k+2,hk=>exact absurd hk (by simp)⟩
def Ma(R:List (Nat->Int)):D:=slD 30 8 (R.map BW)
theorem LS{R:List (Nat->Int)}{k:Nat}(h:k<R.length):(R.map BW).getD k []=BW (DN R k):=by simp [DN,List.getD_eq_getElem?_getD,List.getElem?_eq_getElem h]
theorem NA{T:TypeId}{s:GS}{v:Value}{R:List (Nat->Int)}(h:(slD T 8 (R.map BW)).rel s v):RowsAt .i64 T s.w v R:=by
 obtain ⟨A,c,h1,h2,h3,h4⟩:=h
 simp only [List.length_map] at h1 h2 h4
 refine ⟨A,c,h1,h2,h3,λh0=>?_⟩
 obtain ⟨b,o,h5,h6⟩:=h4 h0
 obtain ⟨_,cs,fz,h7,h8⟩:=h6 0 h0
 refine ⟨b,o,cs,fz,h5,h7,λk j hk hj=>?_⟩
 obtain ⟨h9,cs',fz',h10,h11⟩:=h6 k hk
 rw [h7] at h10
 cases h10
 rw [LS hk] at h11
 obtain ⟨_,u,e,_,r⟩:=h11 j hj
 rw [Hh hj] at r
 have r:u=_:=r
 rw [e,r]
theorem Qb{s:GS}{v:Value}{R:List (Nat->Int)}(h:(Ma R).rel s v):RowsAt .i64 30 s.w v R:=NA h
theorem RG{T:TypeId}{s:GS}{v:Value}{R:List (Nat->Int)}(h:RowsAt .i64 T s.w v R)(hS:∀b o,(∃n c,v = .slice (some ⟨b,o,none⟩) n c)->∀k,s.S b k):(slD T 8 (R.map BW)).rel s v:=by
 obtain ⟨A,c,h1,h2,h3,h4⟩:=h
 refine ⟨A,c,by rw [List.length_map];exact h1,by rw [List.length_map];exact h2,h3,λh0=>?_⟩
 rw [List.length_map] at h0
 obtain ⟨b,o,cs,fz,h5,h6,h7⟩:=h4 h0
 subst h5
 refine ⟨b,o,rfl,λk hk=>?_⟩
 rw [List.length_map] at hk
 rw [LS hk]
 refine ⟨rfl,cs,fz,h6,λj hj=>⟨hS b o ⟨_,_,h1⟩ _,_,h7 k j hk hj,rfl,?_⟩⟩
 rw [Hh hj]
 rfl
theorem LZ{w':World}{v:Value}{R:List (Nat->Int)}{W:Nat}(h:OwnRows 30 W w' v R){s':GS}(hw:s'.w=w')(hS:∀b k,W<=b->b<w'.heap.size->s'.S b k):(Ma R).rel s' v:=by
 subst hw
 refine RG h.rows λb o ⟨n,c,hv⟩ k=>?_
 obtain ⟨h2,h3⟩:=h
 rcases h3 with ⟨e,_⟩ | ⟨g,cap,cur,e,h5,h6,_⟩
 .rw [e] at hv;cases hv
 .rw [e] at hv
  cases hv
  exact hS _ k h5 (AK h6)
theorem Vo(p q:Rat)(N M:Nat)(hp:RSz p N)(hq:RSz q M)(hN:N+M<=4398046511104):Abs Tryz.prog 38 [BX (CL p),BX (CL q)] (BX (CL (p*q))):=by
 refine Bf (AN Tryz.func38 (by kernel_rfl) (by kernel_rfl)) λs vs hok hl hv=>?_
 rw [Rq hl]
 obtain ⟨x0,x0',X0,X0',n0,c0,n0',c0',e0,h0⟩:=CM (hv 0 (by simp))
 obtain ⟨x1,x1',X1,X1',n1,c1,n1',c1',e1,h1⟩:=CM (hv 1 (by simp))
 rw [e0,e1]
 exact (PG x0 x0' X0 X0' n0 c0 n0' c0' x1 x1' X1 X1' n1 c1 n1' c1' p q N M _ h0 h1 hp hq hN).mono λe w' ⟨y,y',Y,Y',m,k,m',k',he,hI,hE⟩=>⟨_,he,hE,λs' hw hok' _ _=>by subst hw;exact Fn hok' hI⟩
theorem TW(p q:Rat)(N M:Nat)(hp:RSz p N)(hq:RSz q M)(hN:N+M+1<=4398046511104):Abs Tryz.prog 61 [BX (CL p),BX (CL q)] (BX (CL (p+q))):=by
 refine Bf (AN Tryz.func61 (by kernel_rfl) (by kernel_rfl)) λs vs hok hl hv=>?_
 rw [Rq hl]
 obtain ⟨x0,x0',X0,X0',n0,c0,n0',c0',e0,h0⟩:=CM (hv 0 (by simp))
 obtain ⟨x1,x1',X1,X1',n1,c1,n1',c1',e1,h1⟩:=CM (hv 1 (by simp))
 rw [e0,e1]
 exact (PJ x0 x0' X0 X0' n0 c0 n0' c0' x1 x1' X1 X1' n1 c1 n1' c1' p q N M _ h0 h1 hp hq hN).mono λe w' ⟨y,y',Y,Y',m,k,m',k',he,hI,hE⟩=>⟨_,he,hE,λs' hw hok' _ _=>by subst hw;exact Fn hok' hI⟩
theorem Su(p q:Rat)(N M:Nat)(hp:RSz p N)(hq:RSz q M)(hN:N+M<=4398046511103):Abs Tryz.prog 88 [BX (CL p),BX (CL q)] (BX (CL (p*q))):=by
 refine Bf (AN Tryz.func88 (by kernel_rfl) (by kernel_rfl)) λs vs hok hl hv=>?_
 rw [Rq hl]
 obtain ⟨x0,x0',X0,X0',n0,c0,n0',c0',e0,h0⟩:=CM (hv 0 (by simp))
 obtain ⟨x1,x1',X1,X1',n1,c1,n1',c1',e1,h1⟩:=CM (hv 1 (by simp))
 rw [e0,e1]
 exact (Ss x0 x0' X0 X0' n0 c0 n0' c0' x1 x1' X1 X1' n1 c1 n1' c1' p q N M _ h0 h1 hp hq hN).mono λe w' ⟨y,y',Y,Y',m,k,m',k',he,hI,hE⟩=>⟨_,he,hE,λs' hw hok' _ _=>by subst hw;exact Fn hok' hI⟩
theorem MV(p q:Rat)(N M:Nat)(hp:RSz p N)(hq:RSz q M)(hN:N+M+1<=4398046511103):Abs Tryz.prog 67 [BX (CL p),BX (CL q)] (BX (CL (p+q))):=by
 refine Bf (AN Tryz.func67 (by kernel_rfl) (by kernel_rfl)) λs vs hok hl hv=>?_
 rw [Rq hl]
 obtain ⟨x0,x0',X0,X0',n0,c0,n0',c0',e0,h0⟩:=CM (hv 0 (by simp))
 obtain ⟨x1,x1',X1,X1',n1,c1,n1',c1',e1,h1⟩:=CM (hv 1 (by simp))
 rw [e0,e1]
 exact (Sx x0 x0' X0 X0' n0 c0 n0' c0' x1 x1' X1 X1' n1 c1 n1' c1' p q N M _ h0 h1 hp hq hN).mono λe w' ⟨y,y',Y,Y',m,k,m',k',he,hI,hE⟩=>⟨_,he,hE,λs' hw hok' _ _=>by subst hw;exact Fn hok' hI⟩
theorem TV(p:Rat)(N:Nat)(hp:RSz p N)(hN:N<=4398046511104):Abs Tryz.prog 42 [BX (CL p)] (BX (CL (-p))):=by
 refine Bf (AN Tryz.func42 (by kernel_rfl) (by kernel_rfl)) λs vs hok hl hv=>?_
 rw [Rr hl]
 obtain ⟨x0,x0',X0,X0',n0,c0,n0',c0',e0,h0⟩:=CM (hv 0 (by simp))
 rw [e0]
 exact (TU x0 x0' X0 X0' n0 c0 n0' c0' p _ h0 (Nat.le_trans hp.1 hN)).mono λe w' ⟨y,y',Y,Y',m,k,m',k',he,hI,hE⟩=>⟨_,he,hE,λs' hw hok' _ _=>by subst hw;exact Fn hok' hI⟩
theorem FZ(p:Rat):Abs Tryz.prog 24 [BX (CL p)] (ex (.int .i64 p.num.sign)):=by
 refine Bf (AN Tryz.func24 (by kernel_rfl) (by kernel_rfl)) λs vs hok hl hv=>?_
 rw [Rr hl]
 obtain ⟨x0,x0',X0,X0',n0,c0,n0',c0',e0,h0⟩:=CM (hv 0 (by simp))
 rw [e0]
 exact (MD x0 x0' X0 X0' n0 c0 n0' c0' p _ h0).mono λe w' ⟨he,hE⟩=>⟨_,he,hE,λs' hw hok' _ _=>rfl⟩
theorem Et(p:Rat):Abs Tryz.prog 28 [BX (CL p)] (ex (.int .i64 p.num.sign)):=by
 refine Bf (AN Tryz.func28 (by kernel_rfl) (by kernel_rfl)) λs vs hok hl hv=>?_
 rw [Rr hl]
 obtain ⟨x0,x0',X0,X0',n0,c0,n0',c0',e0,h0⟩:=CM (hv 0 (by simp))
 rw [e0]
 exact (QT x0 x0' X0 X0' n0 c0 n0' c0' p _ h0).mono λe w' ⟨he,hE⟩=>⟨_,he,hE,λs' hw hok' _ _=>rfl⟩
theorem QH(z:Int)(h0:-9223372036854775808<=z)(h1:z<=9223372036854775807):Abs Tryz.prog 31 [ex (.int .i64 z)] (BX (CL (z:Rat))):=by
 refine Bf (AN Tryz.func31 (by kernel_rfl) (by kernel_rfl)) λs vs hok hl hv=>?_
 rw [Rr hl]
 have e0:vs.getD 0 undef = .int .i64 z:=hv 0 (by simp)
 rw [e0]
 exact (QG z _ h0 h1).mono λe w' ⟨y,y',Y,Y',m,k,m',k',he,hI,hE⟩=>⟨_,he,hE,λs' hw hok' _ _=>by subst hw;exact Fn hok' hI⟩
theorem Fy(z:Int)(h0:-9223372036854775808<=z)(h1:z<=9223372036854775807):Abs Tryz.prog 9 [ex (.int .i64 z)] (BX (CL (z:Rat))):=by
 refine Bf (AN Tryz.func9 (by kernel_rfl) (by kernel_rfl)) λs vs hok hl hv=>?_
 rw [Rr hl]
 have e0:vs.getD 0 undef = .int .i64 z:=hv 0 (by simp)
 rw [e0]
 exact (Oo z _ h0 h1).mono λe w' ⟨y,y',Y,Y',m,k,m',k',he,hI,hE⟩=>⟨_,he,hE,λs' hw hok' _ _=>by subst hw;exact Fn hok' hI⟩
theorem FO(a b:Nat->Int):Abs Tryz.prog 26 [BX (BW a),BX (BW b)] (ex (.int .i64 (DQ a b))):=by
 refine Bf (AN Tryz.func26 (by kernel_rfl) (by kernel_rfl)) λs vs hok hl hv=>?_
 rw [Rq hl]
 have e0:=CO (hv 0 (by simp))
 have e1:=CO (hv 1 (by simp))
 rw [e0,e1]
 exact (Mj a b _).mono λe w' ⟨he,hE⟩=>⟨_,he,hE,λs' hw hok' _ _=>rfl⟩
theorem Dk(a b:Nat->Int):Abs Tryz.prog 30 [BX (BW a),BX (BW b)] (ex (.int .i64 (DQ a b))):=by
 refine Bf (AN Tryz.func30 (by kernel_rfl) (by kernel_rfl)) λs vs hok hl hv=>?_
 rw [Rq hl]
 have e0:=CO (hv 0 (by simp))
 have e1:=CO (hv 1 (by simp))
 rw [e0,e1]
 exact (QO a b _).mono λe w' ⟨he,hE⟩=>⟨_,he,hE,λs' hw hok' _ _=>rfl⟩
theorem Mi(a:Nat->Int)(h:In8 a (-1000000) 1000000):Abs Tryz.prog 47 [BX (BW a)] (ex (.int .i64 (CE a 8))):=by
 refine Bf (AN Tryz.func47 (by kernel_rfl) (by kernel_rfl)) λs vs hok hl hv=>?_
 rw [Rr hl]
 have e0:=CO (hv 0 (by simp))
 rw [e0]
 exact (OO a _ h).mono λe w' ⟨he,hE⟩=>⟨_,he,hE,λs' hw hok' _ _=>rfl⟩
theorem Dy(a:Nat->Int)(h:In8 a 0 65535):Abs Tryz.prog 25 [BX (BW a)] (ex (.bool true)):=by
 refine Bf (AN Tryz.func25 (by kernel_rfl) (by kernel_rfl)) λs vs hok hl hv=>?_
 rw [Rr hl]
 have e0:=CO (hv 0 (by simp))
 rw [e0]
 exact (Id a _ h).mono λe w' ⟨he,hE⟩=>⟨_,he,hE,λs' hw hok' _ _=>rfl⟩
theorem Ie(a:Nat->Int)(h:¬In8 a 0 65535):Abs Tryz.prog 25 [BX (BW a)] (ex (.bool false)):=by
 refine Bf (AN Tryz.func25 (by kernel_rfl) (by kernel_rfl)) λs vs hok hl hv=>?_
 rw [Rr hl]
 have e0:=CO (hv 0 (by simp))
 rw [e0]
 exact (KX a _ h).mono λe w' ⟨he,hE⟩=>⟨_,he,hE,λs' hw hok' _ _=>rfl⟩
theorem Mf(R:List (Nat->Int))(a b:Nat->Int)(hR:∀r∈R,In8 r (-1000) 1000)(ha:In8 a (-1000000) 1000000)(hb:In8 b (-1000000) 1000000):Abs Tryz.prog 43 [Ma R,BX (BW a),BX (BW b)] (ex (.int .i64 (DB R a b))):=by
 refine Bf (AN Tryz.func43 (by kernel_rfl) (by kernel_rfl)) λs vs hok hl hv=>?_
 rw [Vv hl]
 have h0:=Qb (hv 0 (by simp))
 have e1:=CO (hv 1 (by simp))
 have e2:=CO (hv 2 (by simp))
 rw [e1,e2]
 exact (RM (vs.getD 0 undef) R a b _ h0 hR ha hb).mono λe w' ⟨he,hE⟩=>⟨_,he,hE,λs' hw hok' _ _=>rfl⟩
theorem Sw:Abs Tryz.prog 19 [] (Ma []):=by
 refine Bf (AN Tryz.func19 (by kernel_rfl) (by kernel_rfl)) λs vs hok hl hv=>?_
 obtain rfl:vs=[]:=List.eq_nil_of_length_eq_zero hl
 exact (Sv s.w).mono λe w' ⟨A,c,he,hO,hE⟩=>⟨_,he,hE,λs' hw hok' hS _=>LZ hO hw hS⟩
theorem MT:Abs Tryz.prog 18 [] (Ma [EW 255]):=by
 refine Bf (AN Tryz.func18 (by kernel_rfl) (by kernel_rfl)) λs vs hok hl hv=>?_
 obtain rfl:vs=[]:=List.eq_nil_of_length_eq_zero hl
 exact (MS s.w).mono λe w' ⟨A,c,he,hO,hE⟩=>⟨_,he,hE,λs' hw hok' hS _=>LZ hO hw hS⟩
theorem QX(P Q:List Tm):Abs Tryz.prog 10 [Bw P,Bw Q] (ex (.bool (Kj P Q))):=by
 refine Bf (AN Tryz.func10 (by kernel_rfl) (by kernel_rfl)) λs vs hok hl hv=>?_
 rw [Rq hl]
 have h0:=Gk (hv 0 (by simp))
 have h1:=Gk (hv 1 (by simp))
 exact (QW (vs.getD 0 undef) (vs.getD 1 undef) P Q _ h0 h1).mono λe w' ⟨he,hE⟩=>⟨_,he,hE,λs' hw hok' _ _=>rfl⟩
theorem SF(P Q:List Tm)(N M:Nat)(hP:PSz P N)(hQ:PSz Q M)(p q:Int)(hPi:PIn P 0 p)(hQi:PIn Q 0 q)(hpq:p+q<=65535)(hp0:0<=p)(hq0:0<=q)(hn:P.length*Q.length<=100000)(hNM:N+M+1<=10000000):Abs Tryz.prog 14 [Bw P,Bw Q] (Pc (λS=>Canon S/\Sim S (EI P Q)/\PIn S 0 (p+q)/\PSz S (P.length*Q.length*(N+M+1))/\S.length<=P.length*Q.length) λS=>Fm [Bw S,ex (.int .i64 0)]):=by
 refine Bf (AN Tryz.func14 (by kernel_rfl) (by kernel_rfl)) λs vs hok hl hv=>?_
 rw [Rq hl]
 have h0:=Gk (hv 0 (by simp))
 have h1:=Gk (hv 1 (by simp))
 exact (SE (vs.getD 0 undef) (vs.getD 1 undef) P Q _ h0 h1 N M hP hQ p q hPi hQi hpq hp0 hq0 hn hNM).mono λe w' ⟨S,g1,g2,g3,g4,g5,A,c,he,hO,hE⟩=>⟨_,he,hE,λs' hw hok' hS _=>⟨S,⟨g1,g2,g3,g4,g5⟩,Vp (RI hO hw hok' hS) rfl⟩⟩
theorem TC{l:List D}{k:Nat}:(l.map AV.d)[k]? = if k<l.length then some (.d (CX l k)) else none:=by
 rw [List.getElem?_map]
 split
 .rename_i h
  simp [CX,h]
 .rename_i h
  simp [List.getElem?_eq_none (Nat.le_of_not_lt h)]
section
variable {P:Program} {hp:List Ow} {o:Oper} {arg:Operand->AV}
theorem Ox{T U:TypeId}{x y:Operand}{a:Nat}(hop:o.op = .binOp .add T x y U)(hx:arg x = .d (ex (.int .i64 (a:Nat))))(hy:arg y = .d (ex (.int .i64 1)))(h1:(a:Int)<9223372036854775807):Quiet P hp o arg (.d (ex (.int .i64 ((a+1:Nat):Int)))):=
 Quiet.add hop hx hy (by omega) (by omega)
theorem Quiet.max{x y:Operand}{tys:Array TypeId}{k:IntKind}{a b:Int}(hop:o.op = .call { callee:=.builtin .max,args:=#[x,y],argTypes:=tys })(hx:arg x = .d (ex (.int k a)))(hy:arg y = .d (ex (.int k b))):Quiet P hp o arg (.d (ex (.int k (Max.max a b)))):=by
 refine ⟨λbase s ρ ev hok hbs hhp h=>?_⟩
 have h1:=h x (by rw [hop];simp [Op.operands,Call.operands])
 have h2:=h y (by rw [hop];simp [Op.operands,Call.operands])
 rw [hx] at h1;rw [hy] at h2
 have e1:ev x = .int k a:=h1
 have e2:ev y = .int k b:=h2
 refine BM (v:=.int k (Max.max a b)) ?_ ⟨GS.Le.refl s,rfl⟩
 have e3:(if b>a then b else a)=Max.max a b:=by
  rw [Int.max_def]
  by_cases h:a<=b
  .rw [if_pos h];split<;>omega
  .rw [if_neg h,if_neg (by omega)]
 simp only [execOp,hop,resolve,invoke,builtin,Sem.run_bind,Sem.run_pure,Result.andThen_ok,List.map_toArray,List.map_cons,List.map_nil,e1,e2,Builtin.max_,List.foldlM_cons,List.foldlM_nil,Builtin.max2,e3]
theorem Quiet.min{x y:Operand}{tys:Array TypeId}{k:IntKind}{a b:Int}(hop:o.op = .call { callee:=.builtin .min,args:=#[x,y],argTypes:=tys })(hx:arg x = .d (ex (.int k a)))(hy:arg y = .d (ex (.int k b))):Quiet P hp o arg (.d (ex (.int k (Min.min a b)))):=by
 refine ⟨λbase s ρ ev hok hbs hhp h=>?_⟩
 have h1:=h x (by rw [hop];simp [Op.operands,Call.operands])
 have h2:=h y (by rw [hop];simp [Op.operands,Call.operands])
 rw [hx] at h1;rw [hy] at h2
 have e1:ev x = .int k a:=h1
 have e2:ev y = .int k b:=h2
 refine BM (v:=.int k (Min.min a b)) ?_ ⟨GS.Le.refl s,rfl⟩
 have e3:(if b<a then b else a)=Min.min a b:=by
  rw [Int.min_def]
  by_cases h:a<=b
  .rw [if_pos h,if_neg (by omega)]
  .rw [if_neg h];split<;>omega
 simp only [execOp,hop,resolve,invoke,builtin,Sem.run_bind,Sem.run_pure,Result.andThen_ok,List.map_toArray,List.map_cons,List.map_nil,e1,e2,Builtin.min_,List.foldlM_cons,List.foldlM_nil,Builtin.min2,e3]
theorem Lu{α:Type}[Inhabited α]{x y:Operand}{t:TypeId}{e n b n' b' T sz k:Nat}{d:TypeDesc}{z z':Value}{f:α->List D}{l:List α}{κ:IntKind}(hop:o.op = .indexAddr t x y)(hx:FY hp (arg x)=some (slD T sz (l.map f)))(hy:arg y = .d (ex (.int κ (k:Nat))))(ht:Tab P t (.slice e) n b z)(he:Tab P e d n' b' z')(hsz:n'=sz)(hk:k<l.length):Quiet P hp o arg (.d (GT T (f (l.getD k default)))):=by
 have h1:=Quiet.index (P:=P) (hp:=hp) hop hx hy ht he hsz (by omega) (by simp;omega)
 have e1:(l.map f).getD ((k:Nat):Int).toNat []=f (l.getD k default):=by
  show (l.map f).getD k []=_
  simp [List.getD_eq_getElem?_getD,hk]
 rwa [e1] at h1
theorem Lr{x:Operand}{t:TypeId}{d:TypeDesc}{n b T:Nat}{z:Value}{ds:List D}(hop:o.op = .load t x)(hx:arg x = .d (GT T ds))(ht:Tab P t d n b z)(hd:DL d=true)(hn:ds.length=n):Quiet P hp o arg (.d (BX ds)):=by
 have:=Io (P:=P) (hp:=hp) hop hx ht hd (by omega)
 rwa [<-hn,List.take_length] at this
theorem MB{hp:List Ow}:∀(l:List D),Og hp (l.map .d)=some l
 | []=>rfl
 | x::l=>by simp only [List.map_cons,Og,FY,MB l]
theorem Na{x:Operand}{t:TypeId}{d:TypeDesc}{n b T id off:Nat}{z:Value}{ds:List D}(hop:o.op = .load t x)(hx:arg x = .ptr id off)(hh:hp[id]? = some (.var T (ds.map .d)))(ht:Tab P t d n b z)(hd:DL d=true)(hn:Nat.ble (off+n) ds.length=true):Quiet P hp o arg (.d (BX ((ds.drop off).take n))):=
 MZ hop hx hh ht hd (by rw [<-List.map_drop,<-List.map_take];exact MB _) (by have:=Nat.le_of_ble_eq_true hn;simpa using this)
theorem Hr{x:Operand}{t:TypeId}{d:TypeDesc}{n b T id off:Nat}{z:Value}{ds:List D}(hop:o.op = .load t x)(hx:arg x = .ptr id off)(hh:hp[id]? = some (.var T (ds.map .d)))(ht:Tab P t d n b z)(hd:DL d=false)(hn:off<ds.length):Quiet P hp o arg (.d (CX ds off)):=
 Lq hop hx hh ht hd (by rw [TC,if_pos hn])
end
section
variable {P:Program} {s0:An} {n:Nat} {ops:Array Oper} {Q:Exit->AS->Prop} {rest:List Oper} {o:Oper} {σ:AS}
theorem OP{T T0:TypeId}{d:TypeDesc}{b id m:Nat}{z:Value}{x y:Operand}{cells:List AV}{ds:List D}(hop:o.op = .store T x y)(hg:o.guard=none)(hds:o.dst=none)(hx:σ.arg x = .ptr id 0)(hy:σ.arg y = .d (BX ds))(hh:σ.hp[id]? = some (.var T0 cells))(ht:Tab P T d m b z)(hm:ds.length=m)(hoff:cells.length=m)
  (h:AWl P s0 n ops Q rest { fr:=σ.fr,hp:=σ.hp.set id (.var T0 (ds.map .d)) }):AWl P s0 n ops Q (o::rest) σ:=by
 refine OQ hop hg hds hx hy hh ht hm (by omega) ?_
 have:GG cells 0 (ds.map .d)=ds.map .d:=by
  unfold GG
  rw [List.take_zero,List.nil_append,List.drop_eq_nil_of_le (by simp;omega),List.append_nil]
 rw [this]
 exact h
theorem Nl{T T0:TypeId}{d:TypeDesc}{b id off:Nat}{z:Value}{x y:Operand}{cs:List D}{u:D}(hop:o.op = .store T x y)(hg:o.guard=none)(hds:o.dst=none)(hx:σ.arg x = .ptr id off)(hy:σ.arg y = .d u)(hh:σ.hp[id]? = some (.var T0 (cs.map .d)))(ht:Tab P T d 1 b z)(h1:One σ.hp (.d u))(hoff:off<cs.length)
  (h:AWl P s0 n ops Q rest { fr:=σ.fr,hp:=σ.hp.set id (.var T0 ((cs.set off u).map .d)) }):AWl P s0 n ops Q (o::rest) σ:=by
 refine OR hop hg hds hx hy hh ht h1 (by simpa using hoff) ?_
 have:(cs.map AV.d).set off (.d u)=(cs.set off u).map .d:=by rw [List.map_set]
 rw [this]
 exact h
theorem OU{T:TypeId}{d:TypeDesc}{m b:Nat}{z:Value}(hop:o.op = .alloc T)(hg:o.guard=none)(ht:Tab P T d m b z)(hT:Nat.beq T 84=false)(h1:Fp z.cells.toList=true)(hd:QA o.dst n=true)(h:AWl P s0 n ops Q rest (σ.new o.dst (.ptr σ.hp.length 0) (.var T ((z.cells.toList.map ex).map .d)))):AWl P s0 n ops Q (o::rest) σ:=by
 refine AWl.alloc hop hg ht (Nat.ne_of_beq_eq_false hT) h1 hd ?_
 have:Rt z.cells.toList=(z.cells.toList.map ex).map .d:=by simp [Rt]
 rw [this]
 exact h
end
def Vs(fr:List (Nat×AV)):Operand->Option AV
 | .tmp t=>CC fr t
 | .const v=>some (.d (ex v))
 | .global g=>some (.d (ex (.pointer (some ⟨g,0,none⟩))))
 | .func f=>some (.d (ex (.func (.func f) #[] #[])))
theorem ao{fr:List (Nat×AV)}{hp:List Ow}{x:Operand}{av:AV}(h:Vs fr x=some av):AS.arg ⟨fr,hp⟩ x=av:=by
 cases x with
 | tmp t=>
  show (CC fr t).getD (.d DM)=av
  have h:CC fr t=some av:=h
  rw [h];rfl
 | const v=>exact Option.some.inj h
 | global g=>exact Option.some.inj h
 | func f=>exact Option.some.inj h
theorem Oy{α:Type}{P:Program}{hp:List Ow}{o:Oper}{arg:Operand->AV}{x:Operand}{t:TypeId}{e n b T sz:Nat}{z:Value}{f:α->List D}{l:List α}(hop:o.op = .call { callee:=.builtin .len,args:=#[x],argTypes:=#[t] })(hx:FY hp (arg x)=some (slD T sz (l.map f)))(ht:Tab P t (.slice e) n b z):Quiet P hp o arg (.d (ex (.int .i64 (l.length:Nat)))):=by
 have:=Quiet.len (P:=P) hop hx ht
 rwa [List.length_map] at this
def Ih:List (Nat×Nat)->Nat->Option Nat
 | [],_=>none
 | p::r,t=>bif Nat.beq p.1 t then some p.2 else Ih r t
theorem Ji:∀{es:List (Nat×Nat)} {t j:Nat},Ih es t=some j->∃p,es.find? (λp=>p.1==t)=some p/\p.2=j
 | [],_,_,h=>by cases h
 | p::r,t,j,h=>by
  unfold Ih at h
  cases hb:Nat.beq p.1 t with
  | true=>rw [hb] at h;cases h;exact ⟨p,by rw [List.find?_cons,Nat.eq_of_beq_eq_true hb];simp,rfl⟩
  | false=>
   rw [hb] at h
   obtain ⟨q,h1,h2⟩:=Ji h
   refine ⟨q,?_,h2⟩
   rw [List.find?_cons]
   have:(p.1==t)=false:=by simpa using Nat.ne_of_beq_eq_false hb
   rw [this]
   exact h1
theorem Jj:∀{es:List (Nat×Nat)} {t:Nat},Ih es t=none->es.find? (λp=>p.1==t)=none
 | [],_,_=>rfl
 | p::r,t,h=>by
  unfold Ih at h
  cases hb:Nat.beq p.1 t with
  | true=>rw [hb] at h;cases h
  | false=>
   rw [hb] at h
   rw [List.find?_cons]
   have:(p.1==t)=false:=by simpa using Nat.ne_of_beq_eq_false hb
   rw [this]
   exact Jj h
def Ft:Option HR->Option AV
 | some (.av r)=>some r
 | _=>none
def Vr(fr:List (Nat×AV))(rs:List HR)(es:List (Nat×Nat)):Operand->Option AV
 | .tmp t=>match Ih es t with
  | some j=>Ft rs[j]?
  | none=>CC fr t
 | .const v=>some (.d (ex v))
 | .global _=>none
 | .func f=>some (.d (ex (.func (.func f) #[] #[])))
theorem ah{fr:List (Nat×AV)}{hp:List Ow}{rs:List HR}{es:List (Nat×Nat)}{x:Operand}{av:AV}(h:Vr fr rs es x=some av):JD ⟨fr,hp⟩ rs es x=av:=by
 cases x with
 | tmp t=>
  replace h:(match Ih es t with
   | some j=>Ft rs[j]?
   | none=>CC fr t)=some av:=h
  show (match es.find? (λp=>p.1==t) with
   | some p=>match rs[p.2]? with
    | some h=>h.val
    | none=>.d DM
   | none=>(CC fr t).getD (.d DM))=av
  cases hf:Ih es t with
  | some j=>
   rw [hf] at h
   replace h:Ft rs[j]? = some av:=h
   obtain ⟨p,h1,h2⟩:=Ji hf
   simp only [h1,h2]
   cases hr:rs[j]? with
   | none=>rw [hr] at h;cases h
   | some r=>
    rw [hr] at h
    cases r with
    | av r=>cases h;rfl
    | new T cs=>cases h
  | none=>
   rw [hf] at h
   simp only [Jj hf]
   have h:CC fr t=some av:=h
   rw [h];rfl
 | const v=>exact Option.some.inj h
 | global g=>cases h
 | func f=>exact Option.some.inj h
def EO:List Ow->Ow->Option (List Ow)
 | [],x=>some [x]
 | o::l,x=>match EO l x with
  | some r=>some (o::r)
  | none=>none
theorem Fe:∀{l:List Ow} {x:Ow} {r:List Ow},EO l x=some r->r=l++[x]
 | [],x,r,h=>by cases h;rfl
 | o::l,x,r,h=>by
  unfold EO at h
  split at h
  .rename_i r' h'
   cases h
   rw [Fe h']
   rfl
  .cases h
def Hk:List Ow->Option Nat
 | []=>some 0
 | _::l=>match Hk l with
  | some k=>some (k+1)
  | none=>none
theorem Gq:∀{l:List Ow} {k:Nat},Hk l=some k->k=l.length
 | [],k,h=>by cases h;rfl
 | o::l,k,h=>by
  unfold Hk at h
  split at h
  .rename_i r' h'
   cases h
   rw [Gq h']
   rfl
  .cases h
def HB:List Ow->Nat->Ow->Option (List Ow)
 | [],_,_=>none
 | _::l,0,x=>some (x::l)
 | o::l,i+1,x=>match HB l i x with
  | some r=>some (o::r)
  | none=>none
theorem Iy:∀{l:List Ow} {i:Nat} {x:Ow} {r:List Ow},HB l i x=some r->r=l.set i x
 | [],_,_,_,h=>by cases h
 | _::l,0,x,r,h=>by cases h;rfl
 | o::l,i+1,x,r,h=>by
  unfold HB at h
  split at h
  .rename_i r' h'
   cases h
   rw [Iy h']
   rfl
  .cases h
def Tz:List Value->Option (List D)
 | []=>some []
 | v::l=>match Tz l with
  | some r=>some (ex v::r)
  | none=>none
theorem Jn:∀{l:List Value} {r:List D},Tz l=some r->r=l.map ex
 | [],r,h=>by cases h;rfl
 | v::l,r,h=>by
  unfold Tz at h
  split at h
  .rename_i r' h'
   cases h
   rw [Jn h']
   rfl
  .cases h
def IJ:Nat->List D->Option (List D)
 | 0,_=>some []
 | _+1,[]=>none
 | n+1,d::l=>match IJ n l with
  | some r=>some (d::r)
  | none=>none
theorem II:∀{n:Nat} {l r:List D},IJ n l=some r->r=l.take n/\n<=l.length
 | 0,l,r,h=>by cases h;exact ⟨rfl,Nat.zero_le _⟩
 | n+1,[],r,h=>by cases h
 | n+1,d::l,r,h=>by
  unfold IJ at h
  split at h
  .rename_i r' h'
   cases h
   obtain ⟨h1,h2⟩:=II h'
   exact ⟨by rw [h1];rfl,by simpa using h2⟩
  .cases h
def RB:Nat->Nat->List D->Option (List D)
 | 0,n,l=>IJ n l
 | _+1,_,[]=>none
 | o+1,n,_::l=>RB o n l
theorem Pa:∀{o n:Nat} {l r:List D},RB o n l=some r->r=(l.drop o).take n/\o+n<=l.length
 | 0,n,l,r,h=>by
  obtain ⟨h1,h2⟩:=II (n:=n) (l:=l) (r:=r) (by cases l<;>exact h)
  exact ⟨h1,by omega⟩
 | o+1,n,[],r,h=>by cases h
 | o+1,n,d::l,r,h=>by
  obtain ⟨h1,h2⟩:=Pa (o:=o) (by exact h)
  exact ⟨h1,by simp;omega⟩
def Se:Nat->List D->Option D
 | _,[]=>none
 | 0,d::_=>some d
 | i+1,_::l=>Se i l
theorem Li:∀{i:Nat} {l:List D} {d:D},Se i l=some d->d=CX l i/\i<l.length
 | i,[],d,h=>by cases i<;>cases h
 | 0,x::l,d,h=>by cases h;exact ⟨rfl,by simp⟩
 | i+1,x::l,d,h=>by
  obtain ⟨h1,h2⟩:=Li (i:=i) (by exact h)
  exact ⟨h1,by simpa using h2⟩
def RH:List D->List D->Option (List D)
 | [],r=>some r
 | d::l,r=>match RH l r with
  | some x=>some (d::x)
  | none=>none
theorem Pk:∀{l r x:List D},RH l r=some x->x=l++r
 | [],r,x,h=>by cases h;rfl
 | d::l,r,x,h=>by
  unfold RH at h
  split at h
  .rename_i x' h'
   cases h
   rw [Pk h']
   rfl
  .cases h
def Jr:Nat->List D->Option (List D)
 | 0,l=>some l
 | _+1,[]=>none
 | n+1,_::l=>Jr n l
theorem Jq:∀{n:Nat} {l r:List D},Jr n l=some r->r=l.drop n/\n<=l.length
 | 0,l,r,h=>by cases l<;>(cases h;exact ⟨rfl,Nat.zero_le _⟩)
 | n+1,[],r,h=>by cases h
 | n+1,d::l,r,h=>by
  obtain ⟨h1,h2⟩:=Jq (n:=n) (by exact h)
  exact ⟨h1,by simpa using h2⟩
def RC:List D->Nat->List D->Option (List D)
 | l,0,es=>match Jr es.length l with
  | some r=>RH es r
  | none=>none
 | [],_+1,_=>none
 | d::l,o+1,es=>match RC l o es with
  | some r=>some (d::r)
  | none=>none
theorem Pb:∀{l:List D} {o:Nat} {es r:List D},RC l o es=some r->r=Nu l o es/\o+es.length<=l.length
 | l,0,es,r,h=>by
  have h':(match Jr es.length l with
   | some r=>RH es r
   | none=>none)=some r:=by cases l<;>exact h
  split at h'
  .rename_i r' h1
   obtain ⟨h2,h3⟩:=Jq h1
   rw [Pk h',h2]
   exact ⟨by simp [Nu],by omega⟩
  .cases h'
 | [],o+1,es,r,h=>by cases h
 | d::l,o+1,es,r,h=>by
  unfold RC at h
  split at h
  .rename_i r' h1
   cases h
   obtain ⟨h2,h3⟩:=Pb h1
   rw [h2]
   refine ⟨?_,by simp;omega⟩
   simp only [Nu,List.take_succ_cons,List.cons_append]
   rw [show o+1+es.length=(o+es.length)+1 by omega,List.drop_succ_cons]
  .cases h
def FD(id:Nat)(x:D):List (Nat×AV)->Option (List (Nat×AV))
 | []=>some []
 | (t,.own j)::l=>match FD id x l with
  | some r=>bif Nat.beq j id then some ((t,.d x)::r) else some ((t,.own j)::r)
  | none=>none
 | (t,.fn f caps)::l=>match FD id x l with
  | some r=>bif caps.contains id then some ((t,.d DM)::r) else some ((t,.fn f caps)::r)
  | none=>none
 | (t,av)::l=>match FD id x l with
  | some r=>some ((t,av)::r)
  | none=>none
theorem Ms{id:Nat}{x:D}:∀{l r:List (Nat×AV)},FD id x l=some r->r=l.map λp=>(p.1,down id x p.2)
 | [],r,h=>by cases h;rfl
 | (t,av)::l,r,h=>by
  have key:∃r',FD id x l=some r'/\r=(t,down id x av)::r':=by
   cases av with
   | d y=>
    replace h:(match FD id x l with
     | some r=>some ((t,.d y)::r)
     | none=>none)=some r:=h
    split at h
    .rename_i r' h';cases h;exact ⟨r',h',rfl⟩
    .cases h
   | fn f caps=>
    replace h:(match FD id x l with
     | some r=>bif caps.contains id then some ((t,.d DM)::r) else some ((t,.fn f caps)::r)
     | none=>none)=some r:=h
    split at h
    .rename_i r' h'
     cases hb:caps.contains id with
     | true=>rw [hb] at h;cases h;exact ⟨r',h',by simp only [down,hb];rfl⟩
     | false=>rw [hb] at h;cases h;exact ⟨r',h',by simp only [down,hb];rfl⟩
    .cases h
   | ptr i o=>
    replace h:(match FD id x l with
     | some r=>some ((t,.ptr i o)::r)
     | none=>none)=some r:=h
    split at h
    .rename_i r' h';cases h;exact ⟨r',h',rfl⟩
    .cases h
   | own j=>
    replace h:(match FD id x l with
     | some r=>bif Nat.beq j id then some ((t,.d x)::r) else some ((t,.own j)::r)
     | none=>none)=some r:=h
    split at h
    .rename_i r' h'
     cases hb:Nat.beq j id with
     | true=>rw [hb] at h;cases h;exact ⟨r',h',by simp [down,hb]⟩
     | false=>rw [hb] at h;cases h;exact ⟨r',h',by simp [down,hb]⟩
    .cases h
  obtain ⟨r',h1,rfl⟩:=key
  rw [Ms h1]
  rfl
def Ec(id:Nat):List AV->Bool
 | []=>true
 | .own j::l=>bif Nat.beq j id then false else Ec id l
 | .fn _ caps::l=>bif caps.contains id then false else Ec id l
 | _::l=>Ec id l
def Ei(id:Nat):List Ow->Bool
 | []=>true
 | .var _ c::l=>Ec id c&&Ei id l
 | .pin c::l=>Ec id (c.map (·.2))&&Ei id l
 | _::l=>Ei id l
theorem Dv{id:Nat}{x:D}:∀{l:List AV},Ec id l=true->l.map (down id x)=l
 | [],_=>rfl
 | .d y::l,h=>by rw [List.map_cons,Dv (by exact h)];rfl
 | .ptr _ _::l,h=>by rw [List.map_cons,Dv (by exact h)];rfl
 | .own j::l,h=>by
  replace h:(bif Nat.beq j id then false else Ec id l)=true:=h
  cases hb:Nat.beq j id with
  | true=>rw [hb] at h;cases h
  | false=>rw [hb] at h;rw [List.map_cons,Dv (by exact h)];simp only [down,hb];rfl
 | .fn f caps::l,h=>by
  replace h:(bif caps.contains id then false else Ec id l)=true:=h
  cases hb:caps.contains id with
  | true=>rw [hb] at h;cases h
  | false=>rw [hb] at h;rw [List.map_cons,Dv (by exact h)];simp only [down,hb];rfl
theorem NI{id:Nat}{x:D}:∀{l:List (Value×AV)},Ec id (l.map (·.2))=true->(l.map λp=>(p.1,down id x p.2))=l:=λ{l} h=>by
 have h1:=Dv (x:=x) h
 apply List.ext_getElem?
 intro k
 have h2:=congrArg (λy=>y[k]?) h1
 simp only [List.getElem?_map] at h2 ⊢
 cases hk:l[k]? with
 | none=>rfl
 | some p=>
  rw [hk] at h2
  simp only [Option.map_some,Option.some.injEq] at h2 ⊢
  rw [h2]
theorem Dg{id:Nat}{x:D}:∀{l:List Ow},Ei id l=true->l.map (Ow.mapA (down id x))=l
 | [],_=>rfl
 | .var T c::l,h=>by
  simp only [Ei,Bool.and_eq_true] at h
  rw [List.map_cons,Dg h.2]
  simp only [Ow.mapA,Dv h.1]
 | .pin c::l,h=>by
  simp only [Ei,Bool.and_eq_true] at h
  rw [List.map_cons,Dg h.2]
  simp only [Ow.mapA,NI h.1]
 | .dead::l,h=>by rw [List.map_cons,Dg (by exact h)];rfl
 | .row _ _ _::l,h=>by rw [List.map_cons,Dg (by exact h)];rfl
 | .obj _::l,h=>by rw [List.map_cons,Dg (by exact h)];rfl
theorem Ia{id:Nat}:∀l:List D,Ec id (l.map .d)=true
 | []=>rfl
 | _::l=>Ia (id:=id) l
def PlainHp(id:Nat):List Ow->Prop
 | []=>True
 | .var _ c::l=>Ec id c=true/\PlainHp id l
 | .pin c::l=>Ec id (c.map (·.2))=true/\PlainHp id l
 | _::l=>PlainHp id l
theorem PlainHp.ok{id:Nat}:∀{l:List Ow},PlainHp id l->Ei id l=true
 | [],_=>rfl
 | .var T c::l,h=>by simp only [Ei,Bool.and_eq_true];exact ⟨h.1,PlainHp.ok h.2⟩
 | .pin c::l,h=>by simp only [Ei,Bool.and_eq_true];exact ⟨h.1,PlainHp.ok h.2⟩
 | .dead::l,h=>PlainHp.ok (l:=l) h
 | .row _ _ _::l,h=>PlainHp.ok (l:=l) h
 | .obj _::l,h=>PlainHp.ok (l:=l) h
section
variable {id:Nat} {l:List Ow}
theorem PlainHp.nil:PlainHp id []:=trivial
theorem PlainHp.var{T:TypeId}{c:List D}(h:PlainHp id l):PlainHp id (.var T (c.map .d)::l):=⟨Ia c,h⟩
theorem LA(h:PlainHp id l):PlainHp id (.dead::l):=h
theorem Nd{T sz:Nat}{r:List (List D)}(h:PlainHp id l):PlainHp id (.row T sz r::l):=h
end
def Lj:List (Nat×AV)->List Ow->Nat->List Oper->List HR->Option AS
 | fr,hp,0,_,_=>some ⟨fr,hp⟩
 | fr,hp,m+1,o::L,.av r::rs=>match o.dst with
  | some d=>Lj ((d,r)::fr) hp m L rs
  | none=>Lj fr hp m L rs
 | fr,hp,m+1,o::L,.new T cs::rs=>match o.dst,Hk hp,Tz cs with
  | some d,some k,some c=>match EO hp (.var T (c.map .d)) with
   | some hp'=>Lj ((d,.ptr k 0)::fr) hp' m L rs
   | none=>none
  | _,_,_=>none
 | _,_,_,_,_=>none
theorem IB:∀{m:Nat} {fr:List (Nat×AV)} {hp:List Ow} {L:List Oper} {rs:List HR} {τ:AS},Lj fr hp m L rs=some τ->rs.length=m->τ=AS.aft ⟨fr,hp⟩ (L.take m) rs
 | 0,fr,hp,L,rs,τ,h,hl=>by
  obtain rfl:rs=[]:=List.eq_nil_of_length_eq_zero hl
  cases L<;>(cases h;rfl)
 | m+1,fr,hp,[],[],τ,h,hl=>by cases hl
 | m+1,fr,hp,[],r::rs,τ,h,hl=>by cases r<;>cases h
 | m+1,fr,hp,o::L,[],τ,h,hl=>by cases hl
 | m+1,fr,hp,o::L,.av r::rs,τ,h,hl=>by
  rw [List.take_succ_cons]
  have hl:rs.length=m:=by simpa using hl
  unfold Lj at h
  cases hd:o.dst with
  | some d=>
   rw [hd] at h
   have:=IB h hl
   rw [this]
   simp only [AS.aft,AS.put,hd]
  | none=>
   rw [hd] at h
   have:=IB h hl
   rw [this]
   simp only [AS.aft,AS.put,hd]
 | m+1,fr,hp,o::L,.new T cs::rs,τ,h,hl=>by
  rw [List.take_succ_cons]
  have hl:rs.length=m:=by simpa using hl
  unfold Lj at h
  split at h
  .rename_i d k c hd hk hc
   split at h
   .rename_i hp' hs
    have:=IB h hl
    rw [this]
    have e1:=Fe hs
    have e2:=Gq hk
    have e3:=Jn hc
    subst e1;subst e2;subst e3
    simp only [AS.aft,AS.new,AS.put,hd]
    congr 3
    simp [Rt]
   .cases h
  .cases h
section
variable {P:Program} {s0:An} {n:Nat} {ops:Array Oper} {Q:Exit->AS->Prop} {rest:List Oper} {o:Oper} {fr:List (Nat×AV)} {hp:List Ow}
theorem Vm{d:Nat}{r:AV}(hdst:o.dst=some d)(hg:o.guard=none)(hs:Cd o.op=true)(hd:Nat.blt d n=true)(hq:Quiet P hp o (AS.arg ⟨fr,hp⟩) r)(h:AWl P s0 n ops Q rest ⟨(d,r)::fr,hp⟩):AWl P s0 n ops Q (o::rest) ⟨fr,hp⟩:=
 Rn hg hs (by rw [hdst];exact hd) hq (by rw [hdst];exact h)
theorem UT{d:Nat}{r:AV}{j:Nat}{b:Bool}{e:Nat}(hg:o.guard=some (j,b))(hy:(ops[j]?).bind (·.dst)=some e)(hl:CC fr e=some (.d (ex (.bool b))))(hen:Nat.blt e n=true)(hdst:o.dst=some d)(hs:Cd o.op=true)(hd:Nat.blt d n=true)(hq:Quiet P hp o (AS.arg ⟨fr,hp⟩) r)(h:AWl P s0 n ops Q rest ⟨(d,r)::fr,hp⟩):AWl P s0 n ops Q (o::rest) ⟨fr,hp⟩:=
 OS hg hy hl (by simpa [Nat.blt_eq] using hen) hs (by rw [hdst];exact hd) hq (by rw [hdst];exact h)
theorem US{d:Nat}{j:Nat}{b:Bool}{u:Value}{e:Nat}(hg:o.guard=some (j,b))(hy:(ops[j]?).bind (·.dst)=some e)(hl:CC fr e=some (.d (ex u)))(hne:Ug u b=false)(hen:Nat.blt e n=true)(hdst:o.dst=some d)(hd:Nat.blt d n=true)(h:AWl P s0 n ops Q rest ⟨(d,.d (ex undef))::fr,hp⟩):AWl P s0 n ops Q (o::rest) ⟨fr,hp⟩:=
 Rm hg hy hl hne (by simpa [Nat.blt_eq] using hen) (by rw [hdst];exact hd) (by rw [hdst];exact h)
theorem UX{T:TypeId}{d:TypeDesc}{m b k t:Nat}{z:Value}{c:List D}{hp':List Ow}(hop:o.op = .alloc T)(hdst:o.dst=some t)(hg:o.guard=none)(ht:Tab P T d m b z)(hT:Nat.beq T 84=false)(h1:Fp z.cells.toList=true)(hd:Nat.blt t n=true)(hc:Tz z.cells.toList=some c)(hk:Hk hp=some k)(hs:EO hp (.var T (c.map .d))=some hp')(h:AWl P s0 n ops Q rest ⟨(t,.ptr k 0)::fr,hp'⟩):AWl P s0 n ops Q (o::rest) ⟨fr,hp⟩:=by
 refine OU hop hg ht hT h1 (by rw [hdst];exact hd) ?_
 rw [Jn hc] at hs
 rw [Fe hs,Gq hk] at h
 simp only [AS.new,AS.put,hdst]
 exact h
theorem UV{T:TypeId}{x:Operand}{ds:List D}{k t:Nat}{hp':List Ow}(hop:o.op = .box T x)(hdst:o.dst=some t)(hg:o.guard=none)(hx:AS.arg ⟨fr,hp⟩ x = .d (BX ds))(hT:Nat.beq T 84=false)(hd:Nat.blt t n=true)(hk:Hk hp=some k)(hs:EO hp (.var T (ds.map .d))=some hp')(h:AWl P s0 n ops Q rest ⟨(t,.ptr k 0)::fr,hp'⟩):AWl P s0 n ops Q (o::rest) ⟨fr,hp⟩:=by
 refine AWl.box hop hg hx (Nat.ne_of_beq_eq_false hT) (by rw [hdst];exact hd) ?_
 rw [Fe hs,Gq hk] at h
 simp only [AS.new,AS.put,hdst]
 exact h
theorem Ua{T T0:TypeId}{d:TypeDesc}{b id m:Nat}{z:Value}{x y:Operand}{cells:List AV}{ds:List D}{hp':List Ow}(hop:o.op = .store T x y)(hg:o.guard=none)(hds:o.dst=none)(hx:AS.arg ⟨fr,hp⟩ x = .ptr id 0)(hy:AS.arg ⟨fr,hp⟩ y = .d (BX ds))(hh:hp[id]? = some (.var T0 cells))(ht:Tab P T d m b z)(hm:ds.length=m)(hoff:cells.length=m)(hs:HB hp id (.var T0 (ds.map .d))=some hp')
  (h:AWl P s0 n ops Q rest ⟨fr,hp'⟩):AWl P s0 n ops Q (o::rest) ⟨fr,hp⟩:=
 OP hop hg hds hx hy hh ht hm hoff (by rw [Iy hs] at h;exact h)
theorem AWl.app{x y:Operand}{t T T2 sz bytes id m b e:Nat}{z z':Value}{d:TypeDesc}{rows r2:List (List D)}{fr':List (Nat×AV)}{hp':List Ow}(hop:o.op = .call { callee:=.builtin .append,args:=#[x,y],argTypes:=#[t,t] })(hdst:o.dst=some e)(hg:o.guard=none)(hx:AS.arg ⟨fr,hp⟩ x = .own id)(hy:FY hp (AS.arg ⟨fr,hp⟩ y)=some (slD T2 sz r2))(hh:hp[id]? = some (.row T sz rows))(ht:Tab P t (.slice T) m b z')(hT:Tab P T d sz bytes z)(hzs:z.cells.size=sz)(hd:Nat.blt e n=true)(hbytes:(rows.length+r2.length)*bytes<=140737488355328)(h63:rows.length+r2.length<=4611686018427387904)
  (hf:FD id (slD T sz rows) fr=some fr') (hpl:PlainHp id hp) (hs:HB hp id (.row T sz (rows++r2))=some hp') (h:AWl P s0 n ops Q rest ⟨(e,.own id)::fr',hp'⟩):AWl P s0 n ops Q (o::rest) ⟨fr,hp⟩:=by
 refine AWl.append hop hg hx hy hh ht hT hzs (by rw [hdst];exact hd) hbytes h63 ?_
 rw [Iy hs,Ms hf] at h
 simp only [AS.appd,AS.put,hdst,Dg hpl.ok]
 exact h
theorem UW{t T m b sz bytes k e:Nat}{z z':Value}{d:TypeDesc}{hp':List Ow}(hop:o.op = .buildSlice t 0 #[])(hdst:o.dst=some e)(hg:o.guard=none)(ht:Tab P t (.slice T) m b z')(hT:Tab P T d sz bytes z)(hT32:Nat.beq T 84=false)(h0:Nat.blt 0 sz=true)(hd:Nat.blt e n=true)(hk:Hk hp=some k)(hs:EO hp (.row T sz [])=some hp')(h:AWl P s0 n ops Q rest ⟨(e,.own k)::fr,hp'⟩):AWl P s0 n ops Q (o::rest) ⟨fr,hp⟩:=by
 refine OT hop hg ht hT (Nat.ne_of_beq_eq_false hT32) (by simpa [Nat.blt_eq] using h0) (by rw [hdst];exact hd) ?_
 rw [Fe hs,Gq hk] at h
 simp only [AS.new,AS.put,hdst]
 exact h
theorem Uc{t T m b sz bytes k e:Nat}{z z':Value}{d:TypeDesc}{x y:Operand}{c:Int}{hp':List Ow}(hop:o.op = .makeSlice t x y)(hdst:o.dst=some e)(hg:o.guard=none)(hx:AS.arg ⟨fr,hp⟩ x = .d (ex (.int .i64 0)))(hy:AS.arg ⟨fr,hp⟩ y = .d (ex (.int .i64 c)))(ht:Tab P t (.slice T) m b z')(hT:Tab P T d sz bytes z)(hc0:0<=c)(hc:c<=1000000000)(hbytes:Nat.ble bytes 65536=true)(hT32:Nat.beq T 84=false)(h0:Nat.blt 0 sz=true)(hd:Nat.blt e n=true)(hk:Hk hp=some k)(hs:EO hp (.row T sz [])=some hp')(h:AWl P s0 n ops Q rest ⟨(e,.own k)::fr,hp'⟩):AWl P s0 n ops Q (o::rest) ⟨fr,hp⟩:=by
 refine Ro hop hg hx hy ht hT hc0 hc (Nat.le_of_ble_eq_true hbytes) (Nat.ne_of_beq_eq_false hT32) (by simpa [Nat.blt_eq] using h0) (by rw [hdst];exact hd) ?_
 rw [Fe hs,Gq hk] at h
 simp only [AS.new,AS.put,hdst]
 exact h
theorem AWp.dr{id:Nat}{L0:Array Oper}{L:List Oper}{Q0:Exit->AS->Prop}{τ:AS}(hm:DrawOk P s0 n id L0 L Q0 Q)(es:List (List (Nat×Nat)))(bs:List (List Nat))(rs:List HR)(hlen:(es.length==bs.length&&es.length==rs.length&&Nat.ble rs.length L.length)=true)(hok:Cw L (Dn 0 es bs)=true)(hd:DX L es.length n=true)(steps:HSteps P ⟨fr,hp⟩ rs L es rs)
  (ha:Lj fr hp rs.length L rs=some τ) (tail:AWl P s0 n L.toArray Q (L.drop es.length) τ):AWp P s0 n (.region id L0 true) Q0 ⟨fr,hp⟩:=by
 refine SP hm es bs rs hlen hok hd steps ?_
 simp only [Bool.and_eq_true,beq_iff_eq] at hlen
 rw [hlen.1.2,<-IB ha rfl,<-hlen.1.2]
 exact tail
end
section
variable {P:Program} {hp:List Ow} {o:Oper} {arg:Operand->AV}
theorem QZ{x:Operand}{t:TypeId}{d:TypeDesc}{n b T:Nat}{z:Value}{ds r:List D}(hop:o.op = .load t x)(hx:arg x = .d (GT T ds))(ht:Tab P t d n b z)(hd:DL d=true)(hr:IJ n ds=some r):Quiet P hp o arg (.d (BX r)):=by
 obtain ⟨e1,e2⟩:=II hr
 rw [e1]
 exact Io hop hx ht hd e2
theorem Oz{x:Operand}{t:TypeId}{d:TypeDesc}{n b T:Nat}{z:Value}{ds:List D}{r:D}(hop:o.op = .load t x)(hx:arg x = .d (GT T ds))(ht:Tab P t d n b z)(hd:DL d=false)(hr:Se 0 ds=some r):Quiet P hp o arg (.d r):=by
 obtain ⟨e1,e2⟩:=Li hr
 rw [e1]
 exact Ls hop hx ht hd e2
theorem Ra{x:Operand}{t:TypeId}{d:TypeDesc}{n b T id off:Nat}{z:Value}{ds r:List D}(hop:o.op = .load t x)(hx:arg x = .ptr id off)(hh:hp[id]? = some (.var T (ds.map .d)))(ht:Tab P t d n b z)(hd:DL d=true)(hr:RB off n ds=some r):Quiet P hp o arg (.d (BX r)):=by
 obtain ⟨e1,e2⟩:=Pa hr
 rw [e1]
 exact Na hop hx hh ht hd (Nat.ble_eq_true_of_le e2)
theorem OA{x:Operand}{t:TypeId}{d:TypeDesc}{n b T id off:Nat}{z:Value}{ds:List D}{r:D}(hop:o.op = .load t x)(hx:arg x = .ptr id off)(hh:hp[id]? = some (.var T (ds.map .d)))(ht:Tab P t d n b z)(hd:DL d=false)(hr:Se off ds=some r):Quiet P hp o arg (.d r):=by
 obtain ⟨e1,e2⟩:=Li hr
 rw [e1]
 exact Hr hop hx hh ht hd e2
theorem Quiet.ext{x:Operand}{i:Nat}{ds:List D}{r:D}(hop:o.op = .extract x i)(hx:arg x = .d (Fm ds))(hr:Se i ds=some r):Quiet P hp o arg (.d r):=by
 obtain ⟨e1,e2⟩:=Li hr
 rw [e1]
 exact Quiet.extract hop hx e2
theorem OC{x:Operand}{S:TypeId}{fs:Array Field}{f n b n' b' T:Nat}{fd:Field}{d:TypeDesc}{z z':Value}{ds r:List D}(hop:o.op = .fieldAddr S x f)(hx:arg x = .d (GT T ds))(hS:Tab P S (.struct fs) n b z)(hf:fs[f]? = some fd)(he:Tab P fd.type d n' b' z')(hn:Nat.beq n' 0=false)(hr:Jr fd.offset ds=some r):Quiet P hp o arg (.d (GT T r)):=by
 obtain ⟨e1,e2⟩:=Jq hr
 rw [e1]
 exact Lx hop hx hS hf he (Nat.ne_of_beq_eq_false hn)
theorem OB{x:Operand}{S:TypeId}{fs:Array Field}{f n b n' b' id off:Nat}{fd:Field}{d:TypeDesc}{z z':Value}(hop:o.op = .fieldAddr S x f)(hx:arg x = .ptr id off)(hS:Tab P S (.struct fs) n b z)(hf:fs[f]? = some fd)(he:Tab P fd.type d n' b' z')(hn:Nat.beq n' 0=false):Quiet P hp o arg (.ptr id (off+fd.offset)):=
 Lw hop hx hS hf he (Nat.ne_of_beq_eq_false hn)
end
def AG:BinOp->Int->Int->Prop
 | .eql,a,b=>a=b
 | .neq,a,b=>a≠b
 | .lss,a,b=>a<b
 | .leq,a,b=>a<=b
 | .gtr,a,b=>b<a
 | .geq,a,b=>b<=a
 | _,_,_=>False
def Ku:BinOp->Bool
 | .eql | .neq | .lss | .leq | .gtr | .geq=>true
 | _=>false
section
variable {P:Program} {hp:List Ow} {o:Oper} {arg:Operand->AV}
theorem OE{op:BinOp}{T U:TypeId}{x y:Operand}{k:IntKind}{a b:Int}(hop:o.op = .binOp op T x y U)(hb:Ku op=true)(hx:arg x = .d (ex (.int k a)))(hy:arg y = .d (ex (.int k b)))(hc:AG op a b):Quiet P hp o arg (.d (ex (.bool true))):=by
 refine HP hop hx hy ?_
 cases op<;>first | (simp only [AG] at hc;simp [Mz,hc];done) | (simp only [AG] at hc;simp [Mz];omega) | exact absurd hb (by decide)
theorem OF{op:BinOp}{T U:TypeId}{x y:Operand}{k:IntKind}{a b:Int}(hop:o.op = .binOp op T x y U)(hb:Ku op=true)(hx:arg x = .d (ex (.int k a)))(hy:arg y = .d (ex (.int k b)))(hc:¬AG op a b):Quiet P hp o arg (.d (ex (.bool false))):=by
 refine HP hop hx hy ?_
 cases op<;>first | (simp only [AG] at hc;simp [Mz,hc];done) | (simp only [AG] at hc;simp [Mz];omega) | exact absurd hb (by decide)
theorem Lv{α:Type}{x y:Operand}{t:TypeId}{e n b n' b' T sz:Nat}{d:TypeDesc}{z z':Value}{f:α->List D}{a:α}{l:List α}{κ:IntKind}(hop:o.op = .indexAddr t x y)(hx:FY hp (arg x)=some (slD T sz ((a::l).map f)))(hy:arg y = .d (ex (.int κ 0)))(ht:Tab P t (.slice e) n b z)(he:Tab P e d n' b' z')(hsz:n'=sz):Quiet P hp o arg (.d (GT T (f a))):=
 Quiet.index (P:=P) (hp:=hp) hop hx hy ht he hsz (by omega) (by simp)
theorem Nb{α:Type}{x y:Operand}{t:TypeId}{e n b n' b' T sz i:Nat}{d:TypeDesc}{z z':Value}{f:α->List D}{l:List α}(hop:o.op = .slice t x (some y) none none)(hx:FY hp (arg x)=some (slD T sz (l.map f)))(hy:arg y = .d (ex (.int .i64 (i:Nat))))(ht:Tab P t (.slice e) n b z)(he:Tab P e d n' b' z')(hsz:n'=sz)(hi:i<=l.length):Quiet P hp o arg (.d (slD T sz ((l.drop i).map f))):=by
 have h:=Quiet.slice (P:=P) (hp:=hp) (i:=(i:Nat)) (j:=((l.map f).length:Nat)) hop hx ht he hsz (.inl ⟨y,rfl,hy⟩) (.inr ⟨rfl,rfl⟩) (by omega) (by simp;omega) (by omega)
 have e1:((l.map f).take (((l.map f).length:Nat):Int).toNat).drop ((i:Nat):Int).toNat=(l.drop i).map f:=by
  rw [show (((l.map f).length:Nat):Int).toNat=(l.map f).length from rfl,List.take_length,List.map_drop]
  rfl
 rwa [e1] at h
theorem MW{α:Type}{x y:Operand}{t:TypeId}{e n b n' b' T sz:Nat}{d:TypeDesc}{z z':Value}{f:α->List D}{a:α}{l:List α}(hop:o.op = .slice t x (some y) none none)(hx:FY hp (arg x)=some (slD T sz ((a::l).map f)))(hy:arg y = .d (ex (.int .i64 1)))(ht:Tab P t (.slice e) n b z)(he:Tab P e d n' b' z')(hsz:n'=sz):Quiet P hp o arg (.d (slD T sz (l.map f))):=
 Nb (l:=a::l) (i:=1) hop hx hy ht he hsz (by simp)
end
theorem Dd{α:Type}(f:α->List D)(l:List α)(a:α):l.map f++[f a]=(l++[a]).map f:=by simp
theorem UU{P:Program}{s0:An}{n:Nat}{ops:Array Oper}{Q:Exit->AS->Prop}{rest:List Oper}{o:Oper}{fr:List (Nat×AV)}{hp:List Ow}{d:Nat}(hdst:o.dst=some d)(hg:o.guard=none)(hs:Cd o.op=true)(hd:Nat.blt d n=true)(h:∃r,Quiet P hp o (AS.arg ⟨fr,hp⟩) r/\AWl P s0 n ops Q rest ⟨(d,r)::fr,hp⟩):AWl P s0 n ops Q (o::rest) ⟨fr,hp⟩:=by
 obtain ⟨r,h1,h2⟩:=h
 exact Vm hdst hg hs hd h1 h2
theorem Ub{P:Program}{s0:An}{n:Nat}{ops:Array Oper}{Q:Exit->AS->Prop}{rest:List Oper}{o:Oper}{fr:List (Nat×AV)}{hp:List Ow}{d:Nat}{j:Nat}{b:Bool}{e:Nat}(hg:o.guard=some (j,b))(hy:(ops[j]?).bind (·.dst)=some e)(hl:CC fr e=some (.d (ex (.bool b))))(hen:Nat.blt e n=true)(hdst:o.dst=some d)(hs:Cd o.op=true)(hd:Nat.blt d n=true)(h:∃r,Quiet P hp o (AS.arg ⟨fr,hp⟩) r/\AWl P s0 n ops Q rest ⟨(d,r)::fr,hp⟩):AWl P s0 n ops Q (o::rest) ⟨fr,hp⟩:=by
 obtain ⟨r,h1,h2⟩:=h
 exact UT hg hy hl hen hdst hs hd h1 h2
def HW:List HR->HR->Option (List HR)
 | [],x=>some [x]
 | o::l,x=>match HW l x with
  | some r=>some (o::r)
  | none=>none
theorem LM:∀{l:List HR} {x:HR} {r:List HR},HW l x=some r->r=l++[x]
 | [],x,r,h=>by cases h;rfl
 | o::l,x,r,h=>by
  unfold HW at h
  split at h
  .rename_i r' h'
   cases h
   rw [LM h']
   rfl
  .cases h
def HS(P:Program)(σ:AS)(K:List HR->Prop):List HR->List Oper->List (List (Nat×Nat))->Prop
 | acc,_,[]=>K acc
 | acc,o::L,e::es=>∃r,HStep P σ acc e o r/\∃acc',HW acc r=some acc'/\HS P σ K acc' L es
 | _,[],_::_=>False
def Ho:Nat->List Oper->List (List (Nat×Nat))->Bool
 | _,_,[]=>true
 | i,o::L,e::es=>e.all (λp=>Nat.blt p.2 i)&&(match o.guard with | some (j,_)=>Nat.blt j i | none=>true)&&Ho (i+1) L es
 | _,[],_::_=>false
theorem KD{σ:AS}{acc more:List HR}{es:List (Nat×Nat)}(h:∀p∈es,p.2<acc.length):JD σ (acc++more) es=JD σ acc es:=by
 funext x
 cases x with
 | tmp t=>
  show (match es.find? (λp=>p.1==t) with
   | some p=>match (acc++more)[p.2]? with
    | some h=>h.val
    | none=>.d DM
   | none=>_)=(match es.find? (λp=>p.1==t) with
   | some p=>match acc[p.2]? with
    | some h=>h.val
    | none=>.d DM
   | none=>_)
  cases hf:es.find? (λp=>p.1==t) with
  | none=>rfl
  | some p=>
   simp only
   rw [List.getElem?_append_left (h p (List.mem_of_find?_eq_some hf))]
 | const v=>rfl
 | global g=>rfl
 | func f=>rfl
theorem HStep.more{P:Program}{σ:AS}{acc more:List HR}{e:List (Nat×Nat)}{o:Oper}{r:HR}(h:HStep P σ acc e o r)(he:∀p∈e,p.2<acc.length)(hg:∀j b,o.guard=some (j,b)->j<acc.length):HStep P σ (acc++more) e o r:=by
 cases r with
 | av r=>
  rcases h with ⟨h1,h2⟩ | ⟨j,b,c,h1,h2,h3⟩
  .exact .inl ⟨h1,by rw [KD he];exact h2⟩
  .refine .inr ⟨j, b, c, h1, by rw [List.getElem?_append_left (hg j b h1)]; exact h2, ?_⟩
   rw [KD he]
   exact h3
 | new T cs=>exact h
theorem Ng{P:Program}{σ:AS}{K:List HR->Prop}:∀{es:List (List (Nat×Nat))} {L:List Oper} {acc:List HR},Ho acc.length L es=true->HS P σ K acc L es->∃more,more.length=es.length/\HSteps P σ (acc++more) L es more/\K (acc++more)
 | [],L,acc,_,h=>by
  refine ⟨[],rfl,HSteps.nil,?_⟩
  rw [List.append_nil]
  cases L<;>exact h
 | e::es,[],acc,he,h=>by cases he
 | e::es,o::L,acc,he,h=>by
  obtain ⟨r,h1,acc',h2,h3⟩:=h
  have e1:=LM h2
  subst e1
  simp only [Ho,Bool.and_eq_true] at he
  obtain ⟨⟨he1,he2⟩,he3⟩:=he
  obtain ⟨more,h4,h5,h6⟩:=Ng (acc:=acc++[r]) (by simpa using he3) h3
  rw [List.append_assoc,List.singleton_append] at h5 h6
  refine ⟨r::more,by simp [h4],⟨h1.more (λp hp=>?_) λj b hj=>?_,h5⟩,h6⟩
  .have:=List.all_eq_true.1 he1 p hp
   simpa [Nat.blt_eq] using this
  .rw [hj] at he2
   simpa [Nat.blt_eq] using he2
theorem LG{P:Program}{s0:An}{n:Nat}{Q Q0:Exit->AS->Prop}{fr:List (Nat×AV)}{hp:List Ow}{id:Nat}{L0:Array Oper}{L:List Oper}(hm:DrawOk P s0 n id L0 L Q0 Q)(es:List (List (Nat×Nat)))(bs:List (List Nat))(hlen:(es.length==bs.length&&Nat.ble es.length L.length)=true)(hok:Cw L (Dn 0 es bs)=true)(hd:DX L es.length n=true)(hlt:Ho 0 L es=true)
  (h:HS P ⟨fr,hp⟩ (λrs=>∃τ,Lj fr hp es.length L rs=some τ/\AWl P s0 n L.toArray Q (L.drop es.length) τ) [] L es):AWp P s0 n (.region id L0 true) Q0 ⟨fr,hp⟩:=by
 obtain ⟨rs,h1,h2,τ,h3,h4⟩:=Ng (acc:=[]) hlt h
 simp only [List.nil_append] at h2 h3
 simp only [Bool.and_eq_true,beq_iff_eq] at hlen
 exact AWp.dr hm es bs rs (by simp only [Bool.and_eq_true,beq_iff_eq];exact ⟨⟨hlen.1,h1.symm⟩,by rw [h1];exact hlen.2⟩) hok hd h2 (by rw [h1];exact h3) h4
section
variable {P:Program} {hp:List Ow} {arg:Operand->AV} {dd:Option Tmp} {ty:TypeId} {ps:String} {af:Array Edge} {gd:Option (Nat×Bool)}
theorem DH{α:Type}{x:Operand}{t:TypeId}{e n b T sz:Nat}{z:Value}{f:α->List D}{l:List α}(hx:FY hp (arg x)=some (slD T sz (l.map f)))(ht:Tab P t (.slice e) n b z):Quiet P hp ⟨dd,.call { callee:=.builtin .len,args:=#[x],argTypes:=#[t] },ty,ps,af,gd⟩ arg (.d (ex (.int .i64 (l.length:Nat)))):=Oy (o:=⟨dd,.call { callee:=.builtin .len,args:=#[x],argTypes:=#[t] },ty,ps,af,gd⟩) rfl hx ht
theorem Rc{α:Type}{x y:Operand}{t:TypeId}{e n b n' b' T sz:Nat}{d:TypeDesc}{z z':Value}{f:α->List D}{a:α}{l:List α}{κ:IntKind}(hx:FY hp (arg x)=some (slD T sz ((a::l).map f)))(hy:arg y = .d (ex (.int κ 0)))(ht:Tab P t (.slice e) n b z)(he:Tab P e d n' b' z')(hsz:n'=sz):Quiet P hp ⟨dd,.indexAddr t x y,ty,ps,af,gd⟩ arg (.d (GT T (f a))):=Lv (o:=⟨dd,.indexAddr t x y,ty,ps,af,gd⟩) rfl hx hy ht he hsz
theorem SA{α:Type}{x y:Operand}{t:TypeId}{e n b n' b' T sz:Nat}{d:TypeDesc}{z z':Value}{f:α->List D}{a:α}{l:List α}(hx:FY hp (arg x)=some (slD T sz ((a::l).map f)))(hy:arg y = .d (ex (.int .i64 1)))(ht:Tab P t (.slice e) n b z)(he:Tab P e d n' b' z')(hsz:n'=sz):Quiet P hp ⟨dd,.slice t x (some y) none none,ty,ps,af,gd⟩ arg (.d (slD T sz (l.map f))):=MW (o:=⟨dd,.slice t x (some y) none none,ty,ps,af,gd⟩) rfl hx hy ht he hsz
theorem BA{α:Type}[Inhabited α]{x y:Operand}{t:TypeId}{e n b n' b' T sz k:Nat}{d:TypeDesc}{z z':Value}{f:α->List D}{l:List α}{κ:IntKind}(hx:FY hp (arg x)=some (slD T sz (l.map f)))(hy:arg y = .d (ex (.int κ (k:Nat))))(ht:Tab P t (.slice e) n b z)(he:Tab P e d n' b' z')(hsz:n'=sz)(hk:k<l.length):Quiet P hp ⟨dd,.indexAddr t x y,ty,ps,af,gd⟩ arg (.d (GT T (f (l.getD k default)))):=Lu (o:=⟨dd,.indexAddr t x y,ty,ps,af,gd⟩) rfl hx hy ht he hsz hk
theorem UK{T U:TypeId}{x y:Operand}{a b:Int}(hx:arg x = .d (ex (.int .i64 a)))(hy:arg y = .d (ex (.int .i64 b)))(h1:-9223372036854775808<=a+b)(h2:a+b<=9223372036854775807):Quiet P hp ⟨dd,.binOp .add T x y U,ty,ps,af,gd⟩ arg (.d (ex (.int .i64 (a+b)))):=Quiet.add (o:=⟨dd,.binOp .add T x y U,ty,ps,af,gd⟩) rfl hx hy h1 h2
theorem Gx{T U:TypeId}{x y:Operand}{a:Nat}(hx:arg x = .d (ex (.int .i64 (a:Nat))))(hy:arg y = .d (ex (.int .i64 1)))(h1:(a:Int)<9223372036854775807):Quiet P hp ⟨dd,.binOp .add T x y U,ty,ps,af,gd⟩ arg (.d (ex (.int .i64 ((a+1:Nat):Int)))):=Ox (o:=⟨dd,.binOp .add T x y U,ty,ps,af,gd⟩) rfl hx hy h1
theorem GR{op:BinOp}{T U:TypeId}{x y:Operand}{k:IntKind}{a b:Int}{c:Bool}(hx:arg x = .d (ex (.int k a)))(hy:arg y = .d (ex (.int k b)))(hc:Mz op a b=some c):Quiet P hp ⟨dd,.binOp op T x y U,ty,ps,af,gd⟩ arg (.d (ex (.bool c))):=HP (o:=⟨dd,.binOp op T x y U,ty,ps,af,gd⟩) rfl hx hy hc
theorem BV{op:BinOp}{T U:TypeId}{x y:Operand}{k:IntKind}{a b:Int}(hb:Ku op=true)(hx:arg x = .d (ex (.int k a)))(hy:arg y = .d (ex (.int k b)))(hc:AG op a b):Quiet P hp ⟨dd,.binOp op T x y U,ty,ps,af,gd⟩ arg (.d (ex (.bool true))):=OE (o:=⟨dd,.binOp op T x y U,ty,ps,af,gd⟩) rfl hb hx hy hc
theorem Cc{op:BinOp}{T U:TypeId}{x y:Operand}{k:IntKind}{a b:Int}(hb:Ku op=true)(hx:arg x = .d (ex (.int k a)))(hy:arg y = .d (ex (.int k b)))(hc:¬AG op a b):Quiet P hp ⟨dd,.binOp op T x y U,ty,ps,af,gd⟩ arg (.d (ex (.bool false))):=OF (o:=⟨dd,.binOp op T x y U,ty,ps,af,gd⟩) rfl hb hx hy hc
theorem Bu{T:TypeId}{x:Operand}{a:Bool}(hx:arg x = .d (ex (.bool a))):Quiet P hp ⟨dd,.unOp .not T x,ty,ps,af,gd⟩ arg (.d (ex (.bool (!a)))):=Quiet.not (o:=⟨dd,.unOp .not T x,ty,ps,af,gd⟩) rfl hx
theorem Cb{c x y:Operand}{r:AV}(hx:arg x=r)(hc:arg c = .d (ex (.bool true))):Quiet P hp ⟨dd,.pick c x y,ty,ps,af,gd⟩ arg r:=MX (o:=⟨dd,.pick c x y,ty,ps,af,gd⟩) rfl hx hc
theorem BF{c x y:Operand}{r:AV}(hy:arg y=r)(hc:arg c = .d (ex (.bool false))):Quiet P hp ⟨dd,.pick c x y,ty,ps,af,gd⟩ arg r:=MY (o:=⟨dd,.pick c x y,ty,ps,af,gd⟩) rfl hy hc
theorem CH{x:Operand}{S:TypeId}{fs:Array Field}{f n b n' b' T:Nat}{fd:Field}{d:TypeDesc}{z z':Value}{ds r:List D}(hx:arg x = .d (GT T ds))(hS:Tab P S (.struct fs) n b z)(hf:fs[f]? = some fd)(he:Tab P fd.type d n' b' z')(hn:Nat.beq n' 0=false)(hr:Jr fd.offset ds=some r):Quiet P hp ⟨dd,.fieldAddr S x f,ty,ps,af,gd⟩ arg (.d (GT T r)):=OC (o:=⟨dd,.fieldAddr S x f,ty,ps,af,gd⟩) rfl hx hS hf he hn hr
theorem Be{x:Operand}{S:TypeId}{fs:Array Field}{f n b n' b' id off:Nat}{fd:Field}{d:TypeDesc}{z z':Value}(hx:arg x = .ptr id off)(hS:Tab P S (.struct fs) n b z)(hf:fs[f]? = some fd)(he:Tab P fd.type d n' b' z')(hn:Nat.beq n' 0=false):Quiet P hp ⟨dd,.fieldAddr S x f,ty,ps,af,gd⟩ arg (.ptr id (off+fd.offset)):=OB (o:=⟨dd,.fieldAddr S x f,ty,ps,af,gd⟩) rfl hx hS hf he hn
theorem BR{x:Operand}{t:TypeId}{d:TypeDesc}{n b T id off:Nat}{z:Value}{ds r:List D}(hx:arg x = .ptr id off)(hh:hp[id]? = some (.var T (ds.map .d)))(ht:Tab P t d n b z)(hd:DL d=true)(hr:RB off n ds=some r):Quiet P hp ⟨dd,.load t x,ty,ps,af,gd⟩ arg (.d (BX r)):=Ra (o:=⟨dd,.load t x,ty,ps,af,gd⟩) rfl hx hh ht hd hr
theorem CU{x:Operand}{t:TypeId}{d:TypeDesc}{n b T id off:Nat}{z:Value}{ds:List D}{r:D}(hx:arg x = .ptr id off)(hh:hp[id]? = some (.var T (ds.map .d)))(ht:Tab P t d n b z)(hd:DL d=false)(hr:Se off ds=some r):Quiet P hp ⟨dd,.load t x,ty,ps,af,gd⟩ arg (.d r):=OA (o:=⟨dd,.load t x,ty,ps,af,gd⟩) rfl hx hh ht hd hr
theorem Ce{x:Operand}{t:TypeId}{d:TypeDesc}{n b T:Nat}{z:Value}{ds:List D}(hx:arg x = .d (GT T ds))(ht:Tab P t d n b z)(hd:DL d=true)(hn:ds.length=n):Quiet P hp ⟨dd,.load t x,ty,ps,af,gd⟩ arg (.d (BX ds)):=Lr (o:=⟨dd,.load t x,ty,ps,af,gd⟩) rfl hx ht hd hn
theorem DR{x:Operand}{t:TypeId}{d:TypeDesc}{n b T:Nat}{z:Value}{ds r:List D}(hx:arg x = .d (GT T ds))(ht:Tab P t d n b z)(hd:DL d=true)(hr:IJ n ds=some r):Quiet P hp ⟨dd,.load t x,ty,ps,af,gd⟩ arg (.d (BX r)):=QZ (o:=⟨dd,.load t x,ty,ps,af,gd⟩) rfl hx ht hd hr
theorem TR{x:Operand}{t:TypeId}{d:TypeDesc}{n b T:Nat}{z:Value}{ds:List D}{r:D}(hx:arg x = .d (GT T ds))(ht:Tab P t d n b z)(hd:DL d=false)(hr:Se 0 ds=some r):Quiet P hp ⟨dd,.load t x,ty,ps,af,gd⟩ arg (.d r):=Oz (o:=⟨dd,.load t x,ty,ps,af,gd⟩) rfl hx ht hd hr
theorem Ly{x:Operand}{i:Nat}{ds:List D}{r:D}(hx:arg x = .d (Fm ds))(hr:Se i ds=some r):Quiet P hp ⟨dd,.extract x i,ty,ps,af,gd⟩ arg (.d r):=Quiet.ext (o:=⟨dd,.extract x i,ty,ps,af,gd⟩) rfl hx hr
theorem SC{t:TypeId}{fs:Array Field}{n b:Nat}{z:Value}{parts:List (Nat×Operand)}{pl:List (Nat×Nat)}{r:List (Nat×List D)}{ds:List D}(ht:Tab P t (.struct fs) n b z)(hpl:FieldsT P fs.toList pl)(h1:Fp z.cells.toList=true)(hr:PartsA hp arg parts r)(hf:EB (λi=>pl[i]?) (Ld z.cells.toList) r=some ds):Quiet P hp ⟨dd,.build t parts.toArray,ty,ps,af,gd⟩ arg (.d (BX ds)):=Quiet.build (o:=⟨dd,.build t parts.toArray,ty,ps,af,gd⟩) rfl ht hpl h1 hr hf
theorem Nc{t e:TypeId}{len n b n' b':Nat}{z z':Value}{d:TypeDesc}{parts:List (Nat×Operand)}{r:List (Nat×List D)}{ds:List D}(ht:Tab P t (.array len e) n b z)(he:Tab P e d n' b' z')(h1:Fp z.cells.toList=true)(hr:PartsA hp arg parts r)(hf:EB (λi=>some (i*n',n')) (Ld z.cells.toList) r=some ds):Quiet P hp ⟨dd,.build t parts.toArray,ty,ps,af,gd⟩ arg (.d (BX ds)):=JH (o:=⟨dd,.build t parts.toArray,ty,ps,af,gd⟩) rfl ht he h1 hr hf
theorem JV{t e:TypeId}{len n b n' b':Nat}{z z':Value}{d:TypeDesc}{parts:List (Nat×Operand)}{r:List (Nat×List D)}{ds:List D}(ht:Tab P t (.slice e) n b z)(he:Tab P e d n' b' z')(hlen:0<len)(hn:0<n')(hz:z'.cells.size=n')(h24:len*n'<=16777216)(h1:Fp z'.cells.toList=true)(hr:PartsA hp arg parts r)(hf:EB (λi=>some (i*n',n')) (List.replicate (len*n') DM) r=some ds):Quiet P hp ⟨dd,.buildSlice t len parts.toArray,ty,ps,af,gd⟩ arg (.d (slD e n' (Fa n' len ds))):=Quiet.buildSlice (o:=⟨dd,.buildSlice t len parts.toArray,ty,ps,af,gd⟩) rfl ht he hlen hn hz h24 h1 hr hf
theorem UI{x y:Operand}{tys:Array TypeId}{k:IntKind}{a b:Int}(hx:arg x = .d (ex (.int k a)))(hy:arg y = .d (ex (.int k b))):Quiet P hp ⟨dd,.call { callee:=.builtin .max,args:=#[x,y],argTypes:=tys },ty,ps,af,gd⟩ arg (.d (ex (.int k (Max.max a b)))):=Quiet.max (o:=⟨dd,.call { callee:=.builtin .max,args:=#[x,y],argTypes:=tys },ty,ps,af,gd⟩) rfl hx hy
theorem UH{x y:Operand}{tys:Array TypeId}{k:IntKind}{a b:Int}(hx:arg x = .d (ex (.int k a)))(hy:arg y = .d (ex (.int k b))):Quiet P hp ⟨dd,.call { callee:=.builtin .min,args:=#[x,y],argTypes:=tys },ty,ps,af,gd⟩ arg (.d (ex (.int k (Min.min a b)))):=Quiet.min (o:=⟨dd,.call { callee:=.builtin .min,args:=#[x,y],argTypes:=tys },ty,ps,af,gd⟩) rfl hx hy
theorem Ak{f:Operand}{args:List Operand}{tys:Array TypeId}{fid:FuncId}{ds:List D}{r:D}(hf:arg f = .d (ex (.func (.func fid) #[] #[])))(hc:Abs P fid ds r)(ha:ArgsLe hp arg args ds):Quiet P hp ⟨dd,.call { callee:=.value f,args:=args.toArray,argTypes:=tys },ty,ps,af,gd⟩ arg (.d r):=Quiet.call (o:=⟨dd,.call { callee:=.value f,args:=args.toArray,argTypes:=tys },ty,ps,af,gd⟩) rfl hf hc ha
theorem AF{x:Operand}{r:AV}(hx:arg x=r):Quiet P hp ⟨dd,.move x,ty,ps,af,gd⟩ arg r:=Quiet.move (.inl rfl) hx
theorem AC{x:Operand}{r:AV}(hx:arg x=r):Quiet P hp ⟨dd,.assign x,ty,ps,af,gd⟩ arg r:=Quiet.move (.inr rfl) hx
end
section
variable {P:Program} {s0:An} {n:Nat} {ops:Array Oper} {Q:Exit->AS->Prop} {rest:List Oper} {fr:List (Nat×AV)} {hp:List Ow} {ty:TypeId} {ps:String} {af:Array Edge}
theorem UR{T:TypeId}{d:TypeDesc}{m b k t:Nat}{z:Value}{c:List D}{hp':List Ow}(ht:Tab P T d m b z)(hT:Nat.beq T 84=false)(h1:Fp z.cells.toList=true)(hd:Nat.blt t n=true)(hc:Tz z.cells.toList=some c)(hk:Hk hp=some k)(hs:EO hp (.var T (c.map .d))=some hp')(h:AWl P s0 n ops Q rest ⟨(t,.ptr k 0)::fr,hp'⟩):AWl P s0 n ops Q (⟨some t,.alloc T,ty,ps,af,none⟩::rest) ⟨fr,hp⟩:=UX (o:=⟨some t,.alloc T,ty,ps,af,none⟩) rfl rfl rfl ht hT h1 hd hc hk hs h
theorem UQ{T:TypeId}{x:Operand}{ds:List D}{k t:Nat}{hp':List Ow}(hx:AS.arg ⟨fr,hp⟩ x = .d (BX ds))(hT:Nat.beq T 84=false)(hd:Nat.blt t n=true)(hk:Hk hp=some k)(hs:EO hp (.var T (ds.map .d))=some hp')(h:AWl P s0 n ops Q rest ⟨(t,.ptr k 0)::fr,hp'⟩):AWl P s0 n ops Q (⟨some t,.box T x,ty,ps,af,none⟩::rest) ⟨fr,hp⟩:=UV (o:=⟨some t,.box T x,ty,ps,af,none⟩) rfl rfl rfl hx hT hd hk hs h
theorem TX{T T0:TypeId}{d:TypeDesc}{b id m:Nat}{z:Value}{x y:Operand}{cells:List AV}{ds:List D}{hp':List Ow}(hx:AS.arg ⟨fr,hp⟩ x = .ptr id 0)(hy:AS.arg ⟨fr,hp⟩ y = .d (BX ds))(hh:hp[id]? = some (.var T0 cells))(ht:Tab P T d m b z)(hm:ds.length=m)(hoff:cells.length=m)(hs:HB hp id (.var T0 (ds.map .d))=some hp')(h:AWl P s0 n ops Q rest ⟨fr,hp'⟩):AWl P s0 n ops Q (⟨none,.store T x y,ty,ps,af,none⟩::rest) ⟨fr,hp⟩:=Ua (o:=⟨none,.store T x y,ty,ps,af,none⟩) rfl rfl rfl hx hy hh ht hm hoff hs h
theorem TZ{x y:Operand}{t T T2 sz bytes id m b e:Nat}{z z':Value}{d:TypeDesc}{rows r2:List (List D)}{fr':List (Nat×AV)}{hp':List Ow}(hx:AS.arg ⟨fr,hp⟩ x = .own id)(hy:FY hp (AS.arg ⟨fr,hp⟩ y)=some (slD T2 sz r2))(hh:hp[id]? = some (.row T sz rows))(ht:Tab P t (.slice T) m b z')(hT:Tab P T d sz bytes z)(hzs:z.cells.size=sz)(hd:Nat.blt e n=true)(hbytes:(rows.length+r2.length)*bytes<=140737488355328)(h63:rows.length+r2.length<=4611686018427387904)(hf:FD id (slD T sz rows) fr=some fr')(hpl:PlainHp id hp)(hs:HB hp id (.row T sz (rows++r2))=some hp')(h:AWl P s0 n ops Q rest ⟨(e,.own id)::fr',hp'⟩):AWl P s0 n ops Q (⟨some e,.call { callee:=.builtin .append,args:=#[x,y],argTypes:=#[t,t] },ty,ps,af,none⟩::rest) ⟨fr,hp⟩:=AWl.app (o:=⟨some e,.call { callee:=.builtin .append,args:=#[x,y],argTypes:=#[t,t] },ty,ps,af,none⟩) rfl rfl rfl hx hy hh ht hT hzs hd hbytes h63 hf hpl hs h
theorem LF{t T m b sz bytes k e:Nat}{z z':Value}{d:TypeDesc}{hp':List Ow}(ht:Tab P t (.slice T) m b z')(hT:Tab P T d sz bytes z)(hT32:Nat.beq T 84=false)(h0:Nat.blt 0 sz=true)(hd:Nat.blt e n=true)(hk:Hk hp=some k)(hs:EO hp (.row T sz [])=some hp')(h:AWl P s0 n ops Q rest ⟨(e,.own k)::fr,hp'⟩):AWl P s0 n ops Q (⟨some e,.buildSlice t 0 #[],ty,ps,af,none⟩::rest) ⟨fr,hp⟩:=UW (o:=⟨some e,.buildSlice t 0 #[],ty,ps,af,none⟩) rfl rfl rfl ht hT hT32 h0 hd hk hs h
theorem TY{t T m b sz bytes k e:Nat}{z z':Value}{d:TypeDesc}{x y:Operand}{c:Int}{hp':List Ow}(hx:AS.arg ⟨fr,hp⟩ x = .d (ex (.int .i64 0)))(hy:AS.arg ⟨fr,hp⟩ y = .d (ex (.int .i64 c)))(ht:Tab P t (.slice T) m b z')(hT:Tab P T d sz bytes z)(hc0:0<=c)(hc:c<=1000000000)(hbytes:Nat.ble bytes 65536=true)(hT32:Nat.beq T 84=false)(h0:Nat.blt 0 sz=true)(hd:Nat.blt e n=true)(hk:Hk hp=some k)(hs:EO hp (.row T sz [])=some hp')(h:AWl P s0 n ops Q rest ⟨(e,.own k)::fr,hp'⟩):AWl P s0 n ops Q (⟨some e,.makeSlice t x y,ty,ps,af,none⟩::rest) ⟨fr,hp⟩:=Uc (o:=⟨some e,.makeSlice t x y,ty,ps,af,none⟩) rfl rfl rfl hx hy ht hT hc0 hc hbytes hT32 h0 hd hk hs h
theorem By{d:Nat}{op:Op}(hs:Cd op=true)(hd:Nat.blt d n=true)(h:∃r,Quiet P hp ⟨some d,op,ty,ps,af,none⟩ (AS.arg ⟨fr,hp⟩) r/\AWl P s0 n ops Q rest ⟨(d,r)::fr,hp⟩):AWl P s0 n ops Q (⟨some d,op,ty,ps,af,none⟩::rest) ⟨fr,hp⟩:=UU rfl rfl hs hd h
theorem Cs{d:Nat}{op:Op}{j:Nat}{b:Bool}{e:Nat}(hy:(ops[j]?).bind (·.dst)=some e)(hl:CC fr e=some (.d (ex (.bool b))))(hen:Nat.blt e n=true)(hs:Cd op=true)(hd:Nat.blt d n=true)(h:∃r,Quiet P hp ⟨some d,op,ty,ps,af,some (j,b)⟩ (AS.arg ⟨fr,hp⟩) r/\AWl P s0 n ops Q rest ⟨(d,r)::fr,hp⟩):AWl P s0 n ops Q (⟨some d,op,ty,ps,af,some (j,b)⟩::rest) ⟨fr,hp⟩:=Ub rfl hy hl hen rfl hs hd h
theorem DS{d:Nat}{op:Op}{j:Nat}{b:Bool}{u:Value}{e:Nat}(hy:(ops[j]?).bind (·.dst)=some e)(hl:CC fr e=some (.d (ex u)))(hne:Ug u b=false)(hen:Nat.blt e n=true)(hd:Nat.blt d n=true)(h:AWl P s0 n ops Q rest ⟨(d,.d (ex undef))::fr,hp⟩):AWl P s0 n ops Q (⟨some d,op,ty,ps,af,some (j,b)⟩::rest) ⟨fr,hp⟩:=US rfl hy hl hne hen rfl hd h
end
def Vc:List Field->Option (List (Nat×Nat))
 | []=>some []
 | f::l=>match Ka OV f.type with
  | some p=>match Vc l with
   | some r=>some ((f.offset,p.n)::r)
   | none=>none
  | none=>none
theorem RJ:∀{l:List Field} {r:List (Nat×Nat)},Vc l=some r->FieldsT Tryz.prog l r
 | [],r,h=>by cases h;exact FieldsT.nil
 | f::l,r,h=>by
  unfold Vc at h
  cases ht:Ka OV f.type with
  | none=>rw [ht] at h;cases h
  | some p=>
   rw [ht] at h
   simp only at h
   cases hr:Vc l with
   | none=>rw [hr] at h;cases h
   | some r'=>
    rw [hr] at h
    cases h
    obtain ⟨h1,h2⟩:=IH OX ht
    rw [h1] at h2
    exact FieldsT.cons h2 (RJ hr)
def PartOk(hp:List Ow)(av:AV)(es:List D):Prop:=av = .d (BX es)\/∃y,FY hp av=some y/\One hp av/\es=[y]
theorem Ck{hp:List Ow}{av:AV}{es:List D}(h:av = .d (BX es)):PartOk hp av es:=.inl h
theorem PartOk.one{hp:List Ow}{av:AV}{y:D}(h:FY hp av=some y)(h1:One hp av):PartOk hp av [y]:=.inr ⟨y,h,h1,rfl⟩
def Pd:List (Nat×List D)->Nat×List D->Option (List (Nat×List D))
 | [],x=>some [x]
 | o::l,x=>match Pd l x with
  | some r=>some (o::r)
  | none=>none
theorem LL:∀{l:List (Nat×List D)} {x:Nat×List D} {r:List (Nat×List D)},Pd l x=some r->r=l++[x]
 | [],x,r,h=>by cases h;rfl
 | o::l,x,r,h=>by
  unfold Pd at h
  split at h
  .rename_i r' h'
   cases h
   rw [LL h']
   rfl
  .cases h
def PC(hp:List Ow)(arg:Operand->AV)(K:List (Nat×List D)->Prop):List (Nat×List D)->List (Nat×Operand)->Prop
 | acc,[]=>K acc
 | acc,(i,x)::l=>∃es,PartOk hp (arg x) es/\∃acc',Pd acc (i,es)=some acc'/\PC hp arg K acc' l
theorem JI{hp:List Ow}{arg:Operand->AV}{K:List (Nat×List D)->Prop}:∀{l:List (Nat×Operand)} {acc:List (Nat×List D)},PC hp arg K acc l->∃r,PartsA hp arg l r/\K (acc++r)
 | [],acc,h=>⟨[],PartsA.nil,by rw [List.append_nil];exact h⟩
 | (i,x)::l,acc,⟨es,h1,acc',h2,h3⟩=>by
  have e:=LL h2
  subst e
  obtain ⟨r,h4,h5⟩:=JI h3
  rw [List.append_assoc,List.singleton_append] at h5
  exact ⟨(i,es)::r,⟨rfl,h1,h4⟩,h5⟩
def Mp(place:Nat->Option (Nat×Nat)):List D->List (Nat×List D)->Option (List D)
 | ds,[]=>some ds
 | ds,(i,es)::r=>match place i with
  | some (off,size)=>bif Nat.beq es.length size then match RC ds off es with
   | some ds'=>Mp place ds' r
   | none=>none else none
  | none=>none
theorem Jk{place:Nat->Option (Nat×Nat)}:∀{r:List (Nat×List D)} {ds x:List D},Mp place ds r=some x->EB place ds r=some x
 | [],ds,x,h=>h
 | (i,es)::r,ds,x,h=>by
  unfold Mp at h
  unfold EB
  cases hp:place i with
  | none=>rw [hp] at h;cases h
  | some q=>
   obtain ⟨off,size⟩:=q
   rw [hp] at h
   simp only at h ⊢
   cases hb:Nat.beq es.length size with
   | false=>rw [hb] at h;cases h
   | true=>
    rw [hb] at h
    simp only [cond_true] at h
    cases hs:RC ds off es with
    | none=>rw [hs] at h;cases h
    | some ds'=>
     rw [hs] at h
     obtain ⟨e1,e2⟩:=Pb hs
     have e3:=Nat.eq_of_beq_eq_true hb
     have e4:Nat.ble (off+size) ds.length=true:=Nat.ble_eq_true_of_le (by omega)
     rw [e4,<-e1]
     exact Jk h
section
variable {P:Program} {hp:List Ow} {arg:Operand->AV} {dd:Option Tmp} {ty:TypeId} {ps:String} {af:Array Edge} {gd:Option (Nat×Bool)}
theorem CW{t:TypeId}{fs:Array Field}{n b:Nat}{z:Value}{parts:List (Nat×Operand)}{pl:List (Nat×Nat)}{zs:List D}{R:AV->Prop}(ht:Tab Tryz.prog t (.struct fs) n b z)(hpl:Vc fs.toList=some pl)(h1:Fp z.cells.toList=true)(hz:Tz z.cells.toList=some zs)(h:PC hp arg (λr=>∃ds,Mp (λi=>pl[i]?) zs r=some ds/\R (.d (BX ds))) [] parts):∃r,Quiet Tryz.prog hp ⟨dd,.build t parts.toArray,ty,ps,af,gd⟩ arg r/\R r:=by
 obtain ⟨r,h2,ds,h3,h4⟩:=JI h
 rw [Jn hz] at h3
 exact ⟨_,SC ht (RJ hpl) h1 h2 (Jk h3),h4⟩
theorem LE{t e:TypeId}{len n b n' b':Nat}{z z':Value}{d:TypeDesc}{parts:List (Nat×Operand)}{zs:List D}{R:AV->Prop}(ht:Tab P t (.array len e) n b z)(he:Tab P e d n' b' z')(h1:Fp z.cells.toList=true)(hz:Tz z.cells.toList=some zs)(h:PC hp arg (λr=>∃ds,Mp (λi=>some (i*n',n')) zs r=some ds/\R (.d (BX ds))) [] parts):∃r,Quiet P hp ⟨dd,.build t parts.toArray,ty,ps,af,gd⟩ arg r/\R r:=by
 obtain ⟨r,h2,ds,h3,h4⟩:=JI h
 rw [Jn hz] at h3
 exact ⟨_,Nc ht he h1 h2 (Jk h3),h4⟩
theorem Cl{t e:TypeId}{n b n' b':Nat}{z z':Value}{d:TypeDesc}{x:Operand}{es:List D}(hx:arg x = .d (BX es))(ht:Tab P t (.slice e) n b z)(he:Tab P e d n' b' z')(hl:es.length=n')(hn:Nat.blt 0 n'=true)(hz:z'.cells.size=n')(h24:Nat.ble n' 16777216=true)(h1:Fp z'.cells.toList=true):Quiet P hp ⟨dd,.buildSlice t 1 #[(0,x)],ty,ps,af,gd⟩ arg (.d (slD e n' [es])):=by
 have hb:(Nat.beq es.length n'&&Nat.ble (0*n'+n') (List.replicate (1*n') DM).length)=true:=by
  simp [hl]
 have hf:EB (λi=>some (i*n',n')) (List.replicate (1*n') DM) [(0,es)]=some es:=by
  simp only [EB]
  rw [hb]
  simp only [cond_true,Nu,Option.some.injEq]
  rw [Nat.zero_mul,List.take_zero,List.nil_append,List.drop_eq_nil_of_le (by simp [hl]),List.append_nil]
 have h:=JV (P:=P) (hp:=hp) (dd:=dd) (ty:=ty) (ps:=ps) (af:=af) (gd:=gd) (len:=1) (parts:=[(0,x)]) (r:=[(0,es)]) ht he (by omega) (by simpa [Nat.blt_eq] using hn) hz (by have:=Nat.le_of_ble_eq_true h24;omega) h1 (Rf hx PartsA.nil) hf
 have e1:Fa n' 1 es=[es]:=by
  simp only [Fa]
  rw [<-hl,List.take_length]
 rwa [e1] at h
theorem Hq{σ:AS}{acc:List HR}{e:List (Nat×Nat)}{o:Oper}{R:HR->Prop}(hg:o.guard=none)(h:∃r,Quiet P σ.hp o (JD σ acc e) r/\R (.av r)):∃r,HStep P σ acc e o r/\R r:=by
 obtain ⟨r,h1,h2⟩:=h
 exact ⟨_,PH hg h1,h2⟩
end
section
variable {P:Program} {s0:An} {m:Nat} {ops:Array Oper} {Q:Exit->AS->Prop} {rest:List Oper} {σ:AS} {hp:List Ow} {arg:Operand->AV} {dd:Option Tmp} {ty:TypeId} {ps:String} {af:Array Edge} {gd:Option (Nat×Bool)} {R:AV->Prop} {H:HR->Prop} {acc:List HR} {e:List (Nat×Nat)}
theorem Bc{x:Operand}(h:∃r,Quiet P hp ⟨dd,.move x,ty,ps,af,gd⟩ arg r/\R r):∃r,Quiet P hp ⟨dd,.move x,ty,ps,af,gd⟩ arg r/\R r:=h
theorem DI{x:Operand}(h:∃r,HStep P σ acc e ⟨dd,.move x,ty,ps,af,gd⟩ r/\H r):∃r,HStep P σ acc e ⟨dd,.move x,ty,ps,af,gd⟩ r/\H r:=h
theorem AH{x:Operand}(h:∃r,Quiet P hp ⟨dd,.assign x,ty,ps,af,gd⟩ arg r/\R r):∃r,Quiet P hp ⟨dd,.assign x,ty,ps,af,gd⟩ arg r/\R r:=h
theorem AR{t:TypeId}{x:Operand}(h:∃r,Quiet P hp ⟨dd,.load t x,ty,ps,af,gd⟩ arg r/\R r):∃r,Quiet P hp ⟨dd,.load t x,ty,ps,af,gd⟩ arg r/\R r:=h
theorem Hu{t:TypeId}{x:Operand}(h:∃r,HStep P σ acc e ⟨dd,.load t x,ty,ps,af,gd⟩ r/\H r):∃r,HStep P σ acc e ⟨dd,.load t x,ty,ps,af,gd⟩ r/\H r:=h
theorem Aj{t f:Nat}{x:Operand}(h:∃r,Quiet P hp ⟨dd,.fieldAddr t x f,ty,ps,af,gd⟩ arg r/\R r):∃r,Quiet P hp ⟨dd,.fieldAddr t x f,ty,ps,af,gd⟩ arg r/\R r:=h
theorem DK{t f:Nat}{x:Operand}(h:∃r,HStep P σ acc e ⟨dd,.fieldAddr t x f,ty,ps,af,gd⟩ r/\H r):∃r,HStep P σ acc e ⟨dd,.fieldAddr t x f,ty,ps,af,gd⟩ r/\H r:=h
theorem Bo{t:TypeId}{x y:Operand}(h:∃r,Quiet P hp ⟨dd,.indexAddr t x y,ty,ps,af,gd⟩ arg r/\R r):∃r,Quiet P hp ⟨dd,.indexAddr t x y,ty,ps,af,gd⟩ arg r/\R r:=h
theorem DJ{t:TypeId}{x y:Operand}(h:∃r,HStep P σ acc e ⟨dd,.indexAddr t x y,ty,ps,af,gd⟩ r/\H r):∃r,HStep P σ acc e ⟨dd,.indexAddr t x y,ty,ps,af,gd⟩ r/\H r:=h
theorem Ef{l:Array Operand}{ts:Array TypeId}(h:∃r,Quiet P hp ⟨dd,.call { callee:=.builtin .len,args:=l,argTypes:=ts },ty,ps,af,gd⟩ arg r/\R r):∃r,Quiet P hp ⟨dd,.call { callee:=.builtin .len,args:=l,argTypes:=ts },ty,ps,af,gd⟩ arg r/\R r:=h
theorem AT{f:Operand}{l:Array Operand}{ts:Array TypeId}(h:∃r,Quiet P hp ⟨dd,.call { callee:=.value f,args:=l,argTypes:=ts },ty,ps,af,gd⟩ arg r/\R r):∃r,Quiet P hp ⟨dd,.call { callee:=.value f,args:=l,argTypes:=ts },ty,ps,af,gd⟩ arg r/\R r:=h
theorem Gg{f:Operand}{l:Array Operand}{ts:Array TypeId}(h:∃r,HStep P σ acc e ⟨dd,.call { callee:=.value f,args:=l,argTypes:=ts },ty,ps,af,gd⟩ r/\H r):∃r,HStep P σ acc e ⟨dd,.call { callee:=.value f,args:=l,argTypes:=ts },ty,ps,af,gd⟩ r/\H r:=h
theorem JK{t u:TypeId}{x y:Operand}(h:∃r,Quiet P hp ⟨dd,.binOp .add t x y u,ty,ps,af,gd⟩ arg r/\R r):∃r,Quiet P hp ⟨dd,.binOp .add t x y u,ty,ps,af,gd⟩ arg r/\R r:=h
theorem SJ{t u:TypeId}{x y:Operand}(h:∃r,Quiet P hp ⟨dd,.binOp .sub t x y u,ty,ps,af,gd⟩ arg r/\R r):∃r,Quiet P hp ⟨dd,.binOp .sub t x y u,ty,ps,af,gd⟩ arg r/\R r:=h
theorem LD{t u:TypeId}{x y:Operand}(h:∃r,HStep P σ acc e ⟨dd,.binOp .sub t x y u,ty,ps,af,gd⟩ r/\H r):∃r,HStep P σ acc e ⟨dd,.binOp .sub t x y u,ty,ps,af,gd⟩ r/\H r:=h
theorem BE{op:BinOp}{t u:TypeId}{x y:Operand}(h:∃r,Quiet P hp ⟨dd,.binOp op t x y u,ty,ps,af,gd⟩ arg r/\R r):∃r,Quiet P hp ⟨dd,.binOp op t x y u,ty,ps,af,gd⟩ arg r/\R r:=h
theorem Fb{op:BinOp}{t u:TypeId}{x y:Operand}(h:∃r,HStep P σ acc e ⟨dd,.binOp op t x y u,ty,ps,af,gd⟩ r/\H r):∃r,HStep P σ acc e ⟨dd,.binOp op t x y u,ty,ps,af,gd⟩ r/\H r:=h
theorem BN{op:UnOp}{t:TypeId}{x:Operand}(h:∃r,Quiet P hp ⟨dd,.unOp op t x,ty,ps,af,gd⟩ arg r/\R r):∃r,Quiet P hp ⟨dd,.unOp op t x,ty,ps,af,gd⟩ arg r/\R r:=h
theorem SK{x:Operand}{i:Nat}(h:∃r,Quiet P hp ⟨dd,.extract x i,ty,ps,af,gd⟩ arg r/\R r):∃r,Quiet P hp ⟨dd,.extract x i,ty,ps,af,gd⟩ arg r/\R r:=h
theorem UM{x:Operand}{i:Nat}(h:∃r,HStep P σ acc e ⟨dd,.extract x i,ty,ps,af,gd⟩ r/\H r):∃r,HStep P σ acc e ⟨dd,.extract x i,ty,ps,af,gd⟩ r/\H r:=h
theorem BO{c x y:Operand}(h:∃r,Quiet P hp ⟨dd,.pick c x y,ty,ps,af,gd⟩ arg r/\R r):∃r,Quiet P hp ⟨dd,.pick c x y,ty,ps,af,gd⟩ arg r/\R r:=h
theorem Gz{c x y:Operand}(h:∃r,HStep P σ acc e ⟨dd,.pick c x y,ty,ps,af,gd⟩ r/\H r):∃r,HStep P σ acc e ⟨dd,.pick c x y,ty,ps,af,gd⟩ r/\H r:=h
theorem SL{t:TypeId}{pp:Array (Nat×Operand)}(h:∃r,Quiet P hp ⟨dd,.build t pp,ty,ps,af,gd⟩ arg r/\R r):∃r,Quiet P hp ⟨dd,.build t pp,ty,ps,af,gd⟩ arg r/\R r:=h
theorem Vj{t:TypeId}(h:∃r,Quiet P hp ⟨dd,.alloc t,ty,ps,af,gd⟩ arg r/\R r):∃r,Quiet P hp ⟨dd,.alloc t,ty,ps,af,gd⟩ arg r/\R r:=h
theorem Vk{t:TypeId}(h:∃r,HStep P σ acc e ⟨dd,.alloc t,ty,ps,af,gd⟩ r/\H r):∃r,HStep P σ acc e ⟨dd,.alloc t,ty,ps,af,gd⟩ r/\H r:=h
theorem EG{t:TypeId}(h:AWl P s0 m ops Q (⟨dd,.alloc t,ty,ps,af,gd⟩::rest) σ):AWl P s0 m ops Q (⟨dd,.alloc t,ty,ps,af,gd⟩::rest) σ:=h
theorem EF{t:TypeId}{x y:Operand}(h:AWl P s0 m ops Q (⟨dd,.store t x y,ty,ps,af,gd⟩::rest) σ):AWl P s0 m ops Q (⟨dd,.store t x y,ty,ps,af,gd⟩::rest) σ:=h
theorem Ds{t:TypeId}{x:Operand}(h:AWl P s0 m ops Q (⟨dd,.box t x,ty,ps,af,gd⟩::rest) σ):AWl P s0 m ops Q (⟨dd,.box t x,ty,ps,af,gd⟩::rest) σ:=h
theorem Vl{t:TypeId}(h:AWl P s0 m ops Q (⟨dd,.buildSlice t 0 #[],ty,ps,af,gd⟩::rest) σ):AWl P s0 m ops Q (⟨dd,.buildSlice t 0 #[],ty,ps,af,gd⟩::rest) σ:=h
theorem Bi{c:Operand}{x y:Code}(h:AWp P s0 m (.cond c x y) Q σ):AWp P s0 m (.cond c x y) Q σ:=h
end
structure CellAt(ds:List D)(off:Nat)(u:D):Prop where
 lt:off<ds.length
 eq:CX ds off=u
structure SetAt(ds:List D)(off:Nat)(es ds':List D):Prop where
 le:off+es.length<=ds.length
 eq:Nu ds off es=ds'
theorem CellAt.mon{a:Nat->Int}{k:Nat}(h:k<8):CellAt (BW a) k (ex (.int .i64 (a k))):=⟨h,Hh h⟩
theorem Nk{a:Nat->Int}{k:Nat}(h:k<8):CellAt (BW a) (0+k*1) (ex (.int .i64 (a k))):=by rw [Nat.zero_add,Nat.mul_one];exact .mon h
theorem Rl{c:Rat}{a:Nat->Int}{k:Nat}(h:k<8):CellAt (CL c++BW a) (0+4+k*1) (ex (.int .i64 (a k))):=by
 have e:CX (CL c++BW a) (4+k)=CX (BW a) k:=by rw [show 4+k=k+4 by omega];rfl
 rw [Nat.zero_add,Nat.mul_one]
 exact ⟨by rw [List.length_append,HZ,Ic];omega,e.trans (Hh h)⟩
theorem Kp{a:Nat->Int}{k:Nat}{z:Int}(h:k<8):Nu (BW a) k [ex (.int .i64 z)]=BW (Nw a k z):=by
 match k,h with
 | 0,_=>rfl
 | 1,_=>rfl
 | 2,_=>rfl
 | 3,_=>rfl
 | 4,_=>rfl
 | 5,_=>rfl
 | 6,_=>rfl
 | 7,_=>rfl
theorem SetAt.mon{a:Nat->Int}{k:Nat}{z:Int}(h:k<8):SetAt (BW a) (0+k*1) [ex (.int .i64 z)] (BW (Nw a k z)):=by
 rw [Nat.zero_add,Nat.mul_one]
 exact ⟨h,Kp h⟩
theorem Vh{c:Rat}{a:Nat->Int}{k:Nat}{z:Int}(h:k<8):SetAt (CL c++BW a) (0+4+k*1) [ex (.int .i64 z)] (CL c++BW (Nw a k z)):=by
 rw [Nat.zero_add,Nat.mul_one]
 refine ⟨by rw [List.length_append,HZ,Ic];simp;omega,?_⟩
 rw [<-Kp h]
 unfold Nu
 have e1:(CL c++BW a).take (4+k)=CL c++(BW a).take k:=by rw [show 4+k=(CL c).length+k from rfl,List.take_length_add_append]
 have e2:(CL c++BW a).drop (4+k+[ex (.int .i64 z)].length)=(BW a).drop (k+[ex (.int .i64 z)].length):=by rw [Nat.add_assoc,show 4=(CL c).length from rfl,List.drop_length_add_append]
 rw [e1,e2,List.append_assoc]
section
variable {P:Program} {hp:List Ow} {arg:Operand->AV} {dd:Option Tmp} {ty:TypeId} {ps:String} {af:Array Edge} {gd:Option (Nat×Bool)}
theorem UJ{x y:Operand}{t:TypeId}{e n b n' b' len id off k:Nat}{d:TypeDesc}{z z':Value}{κ:IntKind}(hx:arg x = .ptr id off)(hy:arg y = .d (ex (.int κ ((k:Nat):Int))))(ht:Tab P t (.array len e) n b z)(he:Tab P e d n' b' z')(hk:k<len):Quiet P hp ⟨dd,.indexAddr t x y,ty,ps,af,gd⟩ arg (.ptr id (off+k*n')):=
 Lt (o:=⟨dd,.indexAddr t x y,ty,ps,af,gd⟩) rfl hx hy ht he (by omega) (by omega)
theorem FA{T U:TypeId}{x y:Operand}{a:Nat}(hx:arg x = .d (ex (.int .i64 ((a:Nat):Int))))(hy:arg y = .d (ex (.int .i64 1)))(h0:0<a)(h1:(a:Int)<9223372036854775807):Quiet P hp ⟨dd,.binOp .sub T x y U,ty,ps,af,gd⟩ arg (.d (ex (.int .i64 ((a-1:Nat):Int)))):=by
 have:=Quiet.sub (P:=P) (hp:=hp) (o:=⟨dd,.binOp .sub T x y U,ty,ps,af,gd⟩) rfl hx hy (by omega) (by omega)
 rwa [show (a:Int)-1=((a-1:Nat):Int) by omega] at this
theorem TQ{x:Operand}{t:TypeId}{d:TypeDesc}{n b T id off:Nat}{z:Value}{ds:List D}{u:D}(hx:arg x = .ptr id off)(hh:hp[id]? = some (.var T (ds.map .d)))(ht:Tab P t d n b z)(hd:DL d=false)(hc:CellAt ds off u):Quiet P hp ⟨dd,.load t x,ty,ps,af,gd⟩ arg (.d u):=by
 have:=Hr (P:=P) (o:=⟨dd,.load t x,ty,ps,af,gd⟩) rfl hx hh ht hd hc.lt
 rwa [hc.eq] at this
theorem Qo (a b : Nat → Int) {x y : Operand} (w : World) : (do eqGuard .eql 31 x y (.agg (c8 a)) (.agg (c8 b)); binOp .eql 31 (.agg (c8 a)) (.agg (c8 b)) : Sem Value).run Tryz.prog w = .ok (.bool (LH a b)) w := by
 have heq:(Op.equalIn Op.maxDepth 31 (.agg (c8 a)) (.agg (c8 b))).run Tryz.prog w = .ok (LH a b) w:=Dt a b w
 simp [eqGuard,binOp,Op.equal,heq]
theorem OG {op : BinOp} {T U : TypeId} {x y : Operand} {dx dy : D} {a b v : Value} {o : Oper} (hop : o.op = .binOp op T x y U) (hx : arg x = .d dx) (hy : arg y = .d dy) (ha : ∀ s u, dx.rel s u → u = a) (hb : ∀ s u, dy.rel s u → u = b) (hr : ∀ w, (do eqGuard op T x y a b; binOp op T a b : Sem Value).run P w = .ok v w) : Quiet P hp o arg (.d (ex v)) := by
 refine ⟨λbase s ρ ev hok hbs hhp h=>?_⟩
 have h1:=h x (by rw [hop];simp [Op.operands])
 have h2:=h y (by rw [hop];simp [Op.operands])
 rw [hx] at h1;rw [hy] at h2
 have e1:=ha s _ h1
 have e2:=hb s _ h2
 have:=hr s.w
 refine BM (v:=v) ?_ ⟨GS.Le.refl s,rfl⟩
 simp only [execOp,hop,e1,e2,Sem.run_bind,this,Result.andThen_ok,Sem.run_pure]
theorem SB{x y:Operand}{U:TypeId}{a b:Nat->Int}(hx:arg x = .d (BX (BW a)))(hy:arg y = .d (BX (BW b))):Quiet Tryz.prog hp ⟨dd,.binOp .eql 31 x y U,ty,ps,af,gd⟩ arg (.d (ex (.bool (LH a b)))):=
 OG rfl hx hy (λ_ _ h=>CO h) (λ_ _ h=>CO h) λw=>Qo a b w
theorem Rd{x y:Operand}{U:TypeId}{a b:Nat->Int}(hx:arg x = .d (BX (BW a)))(hy:arg y = .d (BX (BW b)))(h:LH a b=true):Quiet Tryz.prog hp ⟨dd,.binOp .eql 31 x y U,ty,ps,af,gd⟩ arg (.d (ex (.bool true))):=by
 rw [<-h];exact SB hx hy
theorem Re{x y:Operand}{T U:TypeId}{a b:Bool}(hx:arg x = .d (ex (.bool a)))(hy:arg y = .d (ex (.bool b)))(hT:P.underlying T=some .bool):Quiet P hp ⟨dd,.binOp .eql T x y U,ty,ps,af,gd⟩ arg (.d (ex (.bool (a==b)))):=
 Gw (o:=⟨dd,.binOp .eql T x y U,ty,ps,af,gd⟩) rfl hx hy λw=>by
  have heq:(Op.equalIn Op.maxDepth T (.bool a) (.bool b)).run P w = .ok (a==b) w:=run_equalIn_bool w 9999 T a b hT
  simp [eqGuard,binOp,Op.equal,heq]
end
section
variable {P:Program} {s0:An} {n:Nat} {ops:Array Oper} {Q:Exit->AS->Prop} {rest:List Oper} {fr:List (Nat×AV)} {hp:List Ow} {ty:TypeId} {ps:String} {af:Array Edge}
theorem JM{T T0:TypeId}{d:TypeDesc}{b id off:Nat}{z:Value}{x y:Operand}{cs cs':List D}{u:D}{hp':List Ow}(hx:AS.arg ⟨fr,hp⟩ x = .ptr id off)(hy:AS.arg ⟨fr,hp⟩ y = .d u)(hh:hp[id]? = some (.var T0 (cs.map .d)))(ht:Tab P T d 1 b z)(h1:One hp (.d u))(hc:SetAt cs off [u] cs')(hs:HB hp id (.var T0 (cs'.map .d))=some hp')
  (h:AWl P s0 n ops Q rest ⟨fr,hp'⟩):AWl P s0 n ops Q (⟨none,.store T x y,ty,ps,af,none⟩::rest) ⟨fr,hp⟩:=by
 have hlt:off<cs.length:=hc.le
 refine Nl (o:=⟨none,.store T x y,ty,ps,af,none⟩) rfl rfl rfl hx hy hh ht h1 hlt ?_
 have e1:=hc.eq
 have:Nu cs off [u]=cs.set off u:=by
  unfold Nu
  rw [List.set_eq_take_append_cons_drop,if_pos hlt]
  rfl
 rw [this] at e1
 rw [Iy hs,<-e1] at h
 exact h
end
theorem Ki:∀{hp hp':List Ow} {i:Nat} {x:Ow},hp[i]? = some x->HB hp i x=some hp'->hp'=hp
 | [],_,_,_,h,_=>by cases h
 | o::l,hp',0,x,h,h'=>by cases h;cases h';rfl
 | o::l,hp',i+1,x,h,h'=>by
  unfold HB at h'
  split at h'
  .rename_i r hr
   cases h'
   rw [Ki (by simpa using h) hr]
  .cases h'
theorem Nm{P:Program}{s0:An}{n:Nat}{ops:Array Oper}{Q:Exit->AS->Prop}{l:List Oper}{fr:List (Nat×AV)}{hp hp':List Ow}{T:TypeId}{cs:List D}(id:Nat)(cs':List D)(hh:hp[id]? = some (.var T (cs.map .d)))(he:cs=cs')(hs:HB hp id (.var T (cs'.map .d))=some hp')(h:AWl P s0 n ops Q l ⟨fr,hp'⟩):AWl P s0 n ops Q l ⟨fr,hp⟩:=by
 subst he
 rw [Ki hh hs] at h
 exact h
theorem D.le.trans{x y z:D}(h:D.le x y)(h':D.le y z):D.le x z:=λs v hv=>h' s v (h s v hv)
theorem DA{x y x' y':D}(h:D.le x x')(h':D.le y y'):D.le (Fm [x,y]) (Fm [x',y']):=λs v hv=>by
 obtain ⟨vs,e,hl,hk⟩:=hv
 refine ⟨vs,e,hl,λk hk'=>?_⟩
 obtain ⟨u,h1,h2⟩:=hk k hk'
 match k,hk' with
 | 0,_=>exact ⟨u,h1,h s u h2⟩
 | 1,_=>exact ⟨u,h1,h' s u h2⟩
 | k+2,hk'=>exact absurd hk' (by simp)
theorem EH{P Q:List Tm}(h:P=Q):D.le (Bw P) (Bw Q):=BK (by rw [h])
theorem HV:D.le (ex (.slice none 0 0)) (Bw []):=Ai
section
variable {P:Program} {hp:List Ow} {arg:Operand->AV} {dd:Option Tmp} {ty:TypeId} {ps:String} {af:Array Edge} {gd:Option (Nat×Bool)}
theorem TP{x:Operand}{t:TypeId}{e n b:Nat}{z:Value}{l:List Nat}(hx:arg x = .d (wD l))(ht:Tab P t (.slice e) n b z):Quiet P hp ⟨dd,.call { callee:=.builtin .len,args:=#[x],argTypes:=#[t] },ty,ps,af,gd⟩ arg (.d (ex (.int .i64 (l.length:Nat)))):=by
 refine ⟨λbase s ρ ev hok hbs hhp h=>?_⟩
 have h1:=h x (by simp [Op.operands,Call.operands])
 rw [hx] at h1
 obtain ⟨A,c,e1,h2⟩:=h1.1
 rw [List.length_map] at e1
 refine BM (v:=.int .i64 l.length) ?_ ⟨GS.Le.refl s,rfl⟩
 simp [execOp,resolve,invoke,builtin,e1,Builtin.len_,run_underlying ht.und,goInt]
theorem Rb{x y:Operand}{t:TypeId}{e n b b' k:Nat}{d:TypeDesc}{z z':Value}{l:List Nat}{κ:IntKind}(hx:arg x = .d (wD l))(hy:arg y = .d (ex (.int κ ((k:Nat):Int))))(ht:Tab P t (.slice e) n b z)(he:Tab P e d 1 b' z')(hk:k<l.length):Quiet P hp ⟨dd,.indexAddr t x y,ty,ps,af,gd⟩ arg (.d (GT 84 [ex (.int .u32 (l.getD k 0:Nat))])):=by
 refine ⟨λbase s ρ ev hok hbs hhp h=>?_⟩
 have h1:=h x (by simp [Op.operands])
 have h2:=h y (by simp [Op.operands])
 rw [hx] at h1;rw [hy] at h2
 have e2:ev y = .int κ ((k:Nat):Int):=h2
 obtain ⟨A,c,e1,h3,h4,h5⟩:=h1.1
 rw [List.length_map] at e1 h5
 obtain ⟨g,p,rfl,h6⟩:=h5 (by omega)
 have h7:=(h6 k hk).2
 have e3:(l.map λx=>[ex (.int .u32 (x:Nat))]).getD k []=[ex (.int .u32 (l.getD k 0:Nat))]:=by
  simp [List.getD_eq_getElem?_getD,hk]
 rw [e3] at h7
 refine BM (v:=.pointer (some ⟨g,p+k*1,none⟩)) ?_ ⟨GS.Le.refl s,g,_,rfl,h7⟩
 have hb:k<l.length:=hk
 simp [execOp,e1,e2,Instr.indexAt,asIntOf,run_underlying ht.und,hb,he.run_size,Addr.add_lit]
end
theorem Ks(z:Int):Abs Tryz.prog 50 [BX (NV z)] (ex (.bool (decide (z=1)))):=by
 refine Bf (AN Tryz.func50 (by kernel_rfl) (by kernel_rfl)) λs vs hok hl hv=>?_
 rw [Rr hl]
 obtain ⟨x0,X0,n0,c0,e0,h0⟩:=Gr (hv 0 (by simp))
 rw [e0]
 exact (Cj x0 X0 n0 c0 z _ h0).mono λe w' ⟨he,hE⟩=>⟨_,he,hE,λs' hw hok' _ _=>rfl⟩
theorem KQ(z:Int):Abs Tryz.prog 49 [BX (NV z)] (ex (.int .i64 z.sign)):=by
 refine Bf (AN Tryz.func49 (by kernel_rfl) (by kernel_rfl)) λs vs hok hl hv=>?_
 rw [Rr hl]
 obtain ⟨x0,X0,n0,c0,e0,h0⟩:=Gr (hv 0 (by simp))
 rw [e0]
 exact (LN x0 X0 n0 c0 z _ h0).mono λe w' ⟨he,hE⟩=>⟨_,he,hE,λs' hw hok' _ _=>rfl⟩
theorem Tw(x y:Int)(hn:(Af x.natAbs).length<=4398046511104)(hn':(Af y.natAbs).length<=4398046511104):Abs Tryz.prog 51 [BX (NV x),BX (NV y)] (BX (NV (Nat.gcd x.natAbs y.natAbs:Nat))):=by
 refine Bf (AN Tryz.func51 (by kernel_rfl) (by kernel_rfl)) λs vs hok hl hv=>?_
 rw [Rq hl]
 obtain ⟨x0,X0,n0,c0,e0,h0⟩:=Gr (hv 0 (by simp))
 obtain ⟨x1,X1,n1,c1,e1,h1⟩:=Gr (hv 1 (by simp))
 rw [e0,e1]
 exact (Pw x0 x1 X0 X1 n0 c0 n1 c1 x y _ h0 h1 hn hn').mono λe w' ⟨y,Y,m,k,he,hI,hE⟩=>⟨_,he,hE,λs' hw hok' _ _=>by subst hw;exact Tu hok' hI⟩
inductive AddE(e:Nat):List Oper->List Oper->Prop
 | nil:AddE e [] []
 | keep {o:Oper} {l l':List Oper} (h:AddE e l l'):AddE e (o::l) (o::l')
 | add {dd:Option Tmp} {op:Op} {ty:TypeId} {ps:String} {af:Array Edge} {gd:Option (Nat×Bool)} {l l':List Oper} (h:AddE e l l'):AddE e (⟨dd,op,ty,ps,af,gd⟩::l) (⟨dd,op,ty,ps,af.push ⟨e,.data⟩,gd⟩::l')
theorem AddE.length{e:Nat}{l l':List Oper}(h:AddE e l l'):l.length=l'.length:=by
 induction h<;>simp_all
theorem AddE.at{e:Nat}{l l':List Oper}(h:AddE e l l'):∀(i:Nat) (o:Oper),l[i]? = some o->∃o',l'[i]? = some o'/\(o'=o\/o'={ o with after:=o.after.push ⟨e,.data⟩ }):=by
 induction h with
 | nil=>intro i o ho;simp at ho
 | keep h ih=>
  intro i o ho
  cases i with
  | zero=>simp at ho;subst ho;exact ⟨_,by simp,.inl rfl⟩
  | succ i=>simpa using ih i o (by simpa using ho)
 | add h ih=>
  intro i o ho
  cases i with
  | zero=>simp at ho;subst ho;exact ⟨_,by simp,.inr rfl⟩
  | succ i=>simpa using ih i o (by simpa using ho)
def NX(e:Nat)(L L':List Oper):Bool:=
 match L[e]?,L'[e]? with
 | some oe,some oe'=>(match oe.op with | .extract _ _=>true | .move _=>true | _=>false)&&oe.guard.isNone&&(BJ oe==BJ oe') &&
  ((List.range L.length).all λi=>match L[i]?,L'[i]? with
   | some o,some o'=>(BJ o==BJ o')||(BJ oe).all λj=>(BJ o).contains j
   | _,_=>false) &&
  ((List.range L.length).all λj=>j==e||match L[j]? with
   | some o=>(BJ o).contains e||(BJ oe).contains j||oe.apart L.toArray o
   | none=>false) &&
  L.all λo=>Cd o.op
 | _,_=>false
theorem Mq{P:Program}{o:Oper}{a:Act}(hop:(∃x n,o.op = .extract x n)\/∃x,o.op = .move x):(∃v,∀w,(execOp a.eval o).run P w = .ok (.value v) w)\/∀(K:Act->World->Prop) (Q:Exit->Act->World->Prop) w,¬o.wp P a w K Q:=by
 rcases hop with ⟨x,n,hop⟩ | ⟨x,hop⟩
 case inr=>exact .inl ⟨a.eval x,λw=>by simp [execOp,hop]⟩
 cases hx:a.eval x with
 | tuple cs=>
  cases hc:cs[n]? with
  | some v=>exact .inl ⟨v,λw=>by simp [execOp,hop,Instr.extract,hx,hc]⟩
  | none=>
   refine .inr λK Q w hw=>?_
   simp [Oper.wp,execOp,hop,Instr.extract,hx,hc,stuck,Oper.upon] at hw
 | _=>
  refine .inr λK Q w hw=>?_
  simp [Oper.wp,execOp,hop,Instr.extract,hx,stuck,Oper.upon] at hw
theorem DE{L:List Oper}{j:Nat}{o:Oper}{listed:Array Bool}(hsz:listed.size=L.length)(ho:L[j]? = some o):j∈Region.ready .any L.toArray listed↔listed.getD j false=false/\∀k∈BJ o,listed.getD k false=true:=by
 have hlt:j<listed.size:=by rw [hsz];exact (List.getElem?_eq_some_iff.1 ho).1
 rw [mem_ready]
 have e:listed.getD j true=listed.getD j false:=by simp [hlt]
 rw [e]
 refine and_congr_right λ_=>⟨λ⟨o',h1,h2⟩ k hk=>?_,λh=>⟨o,by simpa using ho,λe he hb=>h _ (Gm he hb)⟩⟩
 obtain rfl:o'=o:=by rw [List.getElem?_toArray,ho] at h1;exact (Option.some.inj h1).symm
 obtain ⟨e,he,hb,rfl⟩:=Fk hk
 exact h2 e he hb
theorem Qp{o:Oper}{e:Nat}{k:Nat}(h:k∈BJ o):k∈BJ { o with after:=o.after.push ⟨e,.data⟩ }:=by
 obtain ⟨x,hx,hb,rfl⟩:=Fk h
 exact Gm (by simp [hx]) hb
theorem Kz{o:Oper}{e:Nat}{k:Nat}(h:k∈BJ { o with after:=o.after.push ⟨e,.data⟩ }):k∈BJ o\/k=e:=by
 obtain ⟨x,hx,hb,rfl⟩:=Fk h
 rcases Array.mem_push.1 hx with hx | rfl
 .exact .inl (Gm hx hb)
 .exact .inr rfl
theorem LI{P:Program}{Q:Exit->Act->World->Prop}{e:Nat}{L L':List Oper}(hL:AddE e L L')(hb:NX e L L'=true)(hQ:∀c a w,¬Q (.panic c) a w)(hQ':¬LetsOut Q):∀(f:Nat) (listed:Array Bool) (a:Act) (w:World),listed.size=L.length ->
  (∀j o,L[j]? = some o->listed.getD j false=true->∀k∈BJ o,listed.getD k false=true) ->
  wpAny P .any L'.toArray Q f listed a w->wpAny P .any L.toArray Q f listed a w:=by
 obtain ⟨oe,oe',he,he',hb1,hb2,hb3,hb4,hb5,hb6⟩:∃oe oe',L[e]? = some oe/\L'[e]? = some oe'/\((∃x n,oe.op = .extract x n)\/∃x,oe.op = .move x)/\oe.guard=none/\BJ oe=BJ oe'/\(∀i o o',L[i]? = some o->L'[i]? = some o'->BJ o=BJ o'\/∀j∈BJ oe,j∈BJ o)/\(∀j o,L[j]? = some o->j=e\/e∈BJ o\/j∈BJ oe\/oe.apart L.toArray o=true)/\∀o∈L,Cd o.op=true:=by
  unfold NX at hb
  split at hb
  .rename_i oe oe' he he'
   simp only [Bool.and_eq_true] at hb
   obtain ⟨⟨⟨⟨⟨h1,h2⟩,h3⟩,h4⟩,h5⟩,h6⟩:=hb
   refine ⟨oe,oe',he,he',?_,by simpa using h2,by simpa using h3,λi o o' ho ho'=>?_,λj o ho=>?_,λo ho=>List.all_eq_true.1 h6 o ho⟩
   .split at h1
    .exact .inl ⟨_,_,by assumption⟩
    .exact .inr ⟨_,by assumption⟩
    .cases h1
   .have:=List.all_eq_true.1 h4 i (List.mem_range.2 (List.getElem?_eq_some_iff.1 ho).1)
    rw [ho,ho'] at this
    simpa using this
   .have:=List.all_eq_true.1 h5 j (List.mem_range.2 (List.getElem?_eq_some_iff.1 ho).1)
    rw [ho] at this
    simp only [Bool.or_eq_true,beq_iff_eq] at this
    simp only [List.contains_iff_mem] at this
    rcases this with h | (h | h) | h
    .exact .inl h
    .exact .inr (.inl h)
    .exact .inr (.inr (.inl h))
    .exact .inr (.inr (.inr h))
  .cases hb
 have hop:=hb1
 have hlen:=hL.length
 have hel:e<L.length:=(List.getElem?_eq_some_iff.1 he).1
 have hsel:∀(j:Nat) (o:Oper) cs b,L.toArray[j]? = some o->o.op ≠ .select cs b:=λj o cs b ho h=>by
  have:=hb6 o (List.mem_of_getElem? (i:=j) (by simpa using ho))
  rw [h] at this
  cases this
 intro f
 induction f with
 | zero=>
  intro listed a w hsz hcl h
  refine ⟨?_,h.2⟩
  have h1:=h.1
  refine List.eq_nil_iff_forall_not_mem.2 λi hi=>?_
  obtain ⟨_,o,ho,_⟩:=mem_ready.1 hi
  have ho:L[i]? = some o:=by simpa using ho
  obtain ⟨o',ho',hoo⟩:=hL.at i o ho
  have hi2:=(DE hsz ho).1 hi
  by_cases hr:i∈Region.ready .any L'.toArray listed
  .rw [h1] at hr;cases hr
  .have hr':e∈Region.ready .any L'.toArray listed:=by
    rw [DE (by rw [hsz,hlen]) ho'] at hr
    rw [DE (by rw [hsz,hlen]) he',<-hb3]
    rcases hb4 i o o' ho ho' with h | h
    .exact absurd ⟨hi2.1,by rw [<-h];exact hi2.2⟩ hr
    .refine ⟨?_,λk hk=>hi2.2 k (h k hk)⟩
     cases hg:listed.getD e false with
     | false=>rfl
     | true=>
      refine absurd ⟨hi2.1,λk hk=>?_⟩ hr
      rcases hoo with rfl | rfl
      .exact hi2.2 k hk
      .rcases Kz hk with hk | rfl
       .exact hi2.2 k hk
       .exact hg
   rw [h1] at hr';cases hr'
 | succ f ih=>
  intro listed a w hsz hcl h
  by_cases hre:e∈Region.ready .any L.toArray listed
  .have hre2:=(DE hsz he).1 hre
   have hre':e∈Region.ready .any L'.toArray listed:=(DE (by rw [hsz,hlen]) he').2 ⟨hre2.1,by rw [<-hb3];exact hre2.2⟩
   have h1:=h.2 e hre'
   obtain ⟨oe2,he2,hoo⟩:=hL.at e oe he
   obtain rfl:oe2=oe':=Option.some.inj (he2.symm.trans he')
   have hex:execOp a.eval oe2=execOp a.eval oe:=by rcases hoo with rfl | rfl<;>rfl
   have hgd:oe2.guard=none:=by rcases hoo with rfl | rfl<;>exact hb2
   have hds:oe2.dst=oe.dst:=by rcases hoo with rfl | rfl<;>rfl
   unfold wpOp at h1
   rw [show L'.toArray[e]? = some oe2 by simpa using he'] at h1
   simp only [Region.wanted,hgd,if_true] at h1
   have h1:oe2.wp P a w (wpAny P .any L'.toArray Q f (listed.setIfInBounds e true)) Q:=h1.elim id λh=>absurd h.2 hQ'
   rcases Mq (P:=P) (a:=a) hop with ⟨v,hv⟩ | hno
   .have h2:wpAny P .any L'.toArray Q f (listed.setIfInBounds e true) (a.put oe.dst v) w:=by
     unfold Oper.wp at h1
     rw [hex,hv w,Oper.upon_value,hds] at h1
     exact h1
    refine wpAny_first (v:=v) (show L.toArray[e]? = some oe by simpa using he) hsel (λc a w h=>absurd h (hQ c _ w)) f listed a w (λj oj hj hne hun hno=>?_) hre (.inl ⟨by simp [Region.wanted,hb2],hv⟩) (ih _ _ _ (by simpa using hsz) (λj o ho hl k hk=>?_) h2)
    .have hj:L[j]? = some oj:=by simpa using hj
     rcases hb5 j oj hj with h | h | h | h
     .exact absurd h hne
     .obtain ⟨x,hx,hbx,hxe⟩:=Fk h
      exact absurd hxe (hno x hx hbx)
     .have:=hre2.2 j h
      have hlt:j<listed.size:=by rw [hsz];exact (List.getElem?_eq_some_iff.1 hj).1
      simp [hlt] at this hun
      rw [this] at hun;cases hun
     .exact h
    .by_cases hje:j=e
     .subst hje
      obtain rfl:o=oe:=Option.some.inj (ho.symm.trans he)
      exact getD_set_true (hre2.2 k hk)
     .rw [getD_set_ne false (λh=>hje h.symm)] at hl
      exact getD_set_true (hcl j o ho hl k hk)
   .exfalso
    refine hno (wpAny P .any L'.toArray Q f (listed.setIfInBounds e true)) Q w ?_
    unfold Oper.wp at h1 ⊢
    rw [hex] at h1
    have:∀(r:Result Next),oe2.upon P a (wpAny P .any L'.toArray Q f (listed.setIfInBounds e true)) Q r=oe.upon P a (wpAny P .any L'.toArray Q f (listed.setIfInBounds e true)) Q r:=λr=>by
     rcases hoo with rfl | rfl<;>rfl
    rwa [this] at h1
  .have same:∀i,i∈Region.ready .any L.toArray listed↔i∈Region.ready .any L'.toArray listed:=λi=>by
    by_cases hil:i<L.length
    .have ho:L[i]? = some L[i]:=List.getElem?_eq_getElem hil
     obtain ⟨o',ho',hoo⟩:=hL.at i _ ho
     rw [DE hsz ho,DE (by rw [hsz,hlen]) ho']
     refine and_congr_right λhun=>⟨λh k hk=>?_,λh k hk=>?_⟩
     .rcases hb4 i _ o' ho ho' with h' | h'
      .exact h k (by rw [h'];exact hk)
      .rcases hoo with rfl | rfl
       .exact h k hk
       .rcases Kz hk with hk | rfl
        .exact h k hk
        .cases hg:listed.getD k false with
         | true=>rfl
         | false=>exact absurd ((DE hsz he).2 ⟨hg,λj hj=>h j (h' j hj)⟩) hre
     .rcases hoo with rfl | rfl
      .exact h k hk
      .exact h k (Qp hk)
    .constructor
     .intro h
      obtain ⟨_,o,ho,_⟩:=mem_ready.1 h
      have:=(Array.getElem?_eq_some_iff.1 ho).1
      simp at this
      exact absurd this hil
     .intro h
      obtain ⟨_,o,ho,_⟩:=mem_ready.1 h
      have:=(Array.getElem?_eq_some_iff.1 ho).1
      simp at this
      exact absurd (by omega) hil
   refine ⟨λhn=>h.1 (List.eq_nil_iff_forall_not_mem.2 λi hi=>?_),λi hi=>?_⟩
   .have:=(same i).2 hi
    rw [hn] at this;cases this
   .have h1:=h.2 i ((same i).1 hi)
    obtain ⟨_,o,ho,_⟩:=mem_ready.1 hi
    have ho:L[i]? = some o:=by simpa using ho
    obtain ⟨o',ho',hoo⟩:=hL.at i o ho
    have hi2:=(DE hsz ho).1 hi
    have hyl:∀t,yielded L'.toArray t=yielded L.toArray t:=λt=>by
     funext j
     unfold yielded
     simp only [List.getElem?_toArray]
     cases hj:L[j]? with
     | none=>
      have:L'[j]? = none:=by rw [List.getElem?_eq_none_iff] at hj ⊢;omega
      rw [this]
     | some oj=>
      obtain ⟨oj',hj',hjj⟩:=hL.at j oj hj
      rw [hj']
      rcases hjj with rfl | rfl<;>rfl
    have hcl2:∀j o,L[j]? = some o->(listed.setIfInBounds i true).getD j false=true->∀k∈BJ o,(listed.setIfInBounds i true).getD k false=true:=λj oj hoj hl k hk=>by
     by_cases hji:j=i
     .subst hji
      obtain rfl:oj=o:=Option.some.inj (hoj.symm.trans ho)
      exact getD_set_true (hi2.2 k hk)
     .rw [getD_set_ne false (λh=>hji h.symm)] at hl
      exact getD_set_true (hcl j oj hoj hl k hk)
    refine wpOp_mono (λa w h=>ih _ a w (by simpa using hsz) hcl2 h) ?_
    unfold wpOp at h1 ⊢
    rw [show L'.toArray[i]? = some o' by simpa using ho'] at h1
    rw [show L.toArray[i]? = some o by simpa using ho]
    rw [hyl] at h1
    rcases hoo with rfl | rfl
    .exact h1
    .exact h1
structure OnlyN(Q:Exit->AS->Prop)(e:Exit)(σ:AS):Prop where
 how:e = .normal
 run:Q .normal σ
theorem OnlyN.mk'{Q:Exit->AS->Prop}{σ:AS}(h:Q .normal σ):OnlyN Q .normal σ:=⟨rfl,h⟩
theorem Hv{P:Program}{s0:An}{n:Nat}{id:Nat}{e:Nat}{L L':List Oper}{Q:Exit->AS->Prop}(hm:P.follows .mixedOrders=true)(hL:AddE e L L')(hb:NX e L L'=true):DrawOk P s0 n id L.toArray L' Q (OnlyN Q):=⟨λa w h=>by
 have hfz:∀j,(Array.replicate L.toArray.size false).getD j false=false:=λj=>by
  rcases Nat.lt_or_ge j L.length with h | h
  .simp [h]
  .simp [h]
 have hs:L'.toArray.size=L.toArray.size:=by simp [hL.length]
 rw [hs] at h
 have hp:∀c a w,¬HH s0 n (OnlyN Q) (.panic c) a w:=λc a w ⟨σ,h,_⟩=>by have:=h.how;cases this
 have hl:¬LetsOut (HH s0 n (OnlyN Q)):=λ⟨a,w,σ,h,_⟩=>by have:=h.how;cases this
 have h1:=LI hL hb hp hl _ _ _ _ (by simp) (λj o _ hl=>by rw [hfz] at hl;cases hl) h
 exact wp_mono (wp_region_any hm h1) λex a' w' ⟨σ,h,hs⟩=>by
  obtain ⟨rfl,h⟩:=h
  exact ⟨σ,h,hs⟩⟩
section
variable {P:Program} {hp:List Ow} {arg:Operand->AV} {dd:Option Tmp} {ty:TypeId} {ps:String} {af:Array Edge} {gd:Option (Nat×Bool)}
theorem Ah{x:Operand}{r:AV}(hx:arg x=r:=by first | exact ao rfl | exact ah rfl):Quiet P hp ⟨dd,.move x,ty,ps,af,gd⟩ arg r:=AF hx
theorem KJ{x:Operand}{r:AV}(hx:arg x=r:=by first | exact ao rfl | exact ah rfl):Quiet P hp ⟨dd,.assign x,ty,ps,af,gd⟩ arg r:=AC hx
theorem AO{x:Operand}{t:TypeId}{d:TypeDesc}{n b T id off:Nat}{z:Value}{ds r:List D}(hx:arg x = .ptr id off:=by first | exact ao rfl | exact ah rfl)(hh:hp[id]? = some (.var T (ds.map .d)):=by exact rfl)(ht:Tab P t d n b z:=by exact (Ad rfl))(hd:DL d=true:=by exact rfl)(hr:RB off n ds=some r:=by exact rfl):Quiet P hp ⟨dd,.load t x,ty,ps,af,gd⟩ arg (.d (BX r)):=BR hx hh ht hd hr
theorem Cr{x:Operand}{t:TypeId}{d:TypeDesc}{n b T id off:Nat}{z:Value}{ds:List D}{r:D}(hx:arg x = .ptr id off:=by first | exact ao rfl | exact ah rfl)(hh:hp[id]? = some (.var T (ds.map .d)):=by exact rfl)(ht:Tab P t d n b z:=by exact (Ad rfl))(hd:DL d=false:=by exact rfl)(hr:Se off ds=some r:=by exact rfl):Quiet P hp ⟨dd,.load t x,ty,ps,af,gd⟩ arg (.d r):=CU hx hh ht hd hr
theorem AQ{x:Operand}{t:TypeId}{d:TypeDesc}{n b T:Nat}{z:Value}{ds:List D}(hx:arg x = .d (GT T ds):=by first | exact ao rfl | exact ah rfl)(ht:Tab P t d n b z:=by exact (Ad rfl))(hd:DL d=true:=by exact rfl)(hn:ds.length=n:=by exact rfl):Quiet P hp ⟨dd,.load t x,ty,ps,af,gd⟩ arg (.d (BX ds)):=Ce hx ht hd hn
theorem Ge{x:Operand}{t:TypeId}{d:TypeDesc}{n b T:Nat}{z:Value}{ds r:List D}(hx:arg x = .d (GT T ds):=by first | exact ao rfl | exact ah rfl)(ht:Tab P t d n b z:=by exact (Ad rfl))(hd:DL d=true:=by exact rfl)(hr:IJ n ds=some r:=by exact rfl):Quiet P hp ⟨dd,.load t x,ty,ps,af,gd⟩ arg (.d (BX r)):=DR hx ht hd hr
theorem Gv{x:Operand}{t:TypeId}{d:TypeDesc}{n b T:Nat}{z:Value}{ds:List D}{r:D}(hx:arg x = .d (GT T ds):=by first | exact ao rfl | exact ah rfl)(ht:Tab P t d n b z:=by exact (Ad rfl))(hd:DL d=false:=by exact rfl)(hr:Se 0 ds=some r:=by exact rfl):Quiet P hp ⟨dd,.load t x,ty,ps,af,gd⟩ arg (.d r):=TR hx ht hd hr
theorem Ep{x:Operand}{t:TypeId}{d:TypeDesc}{n b T id off:Nat}{z:Value}{ds:List D}{u:D}(hx:arg x = .ptr id off:=by first | exact ao rfl | exact ah rfl)(hh:hp[id]? = some (.var T (ds.map .d)):=by exact rfl)(ht:Tab P t d n b z:=by exact (Ad rfl))(hd:DL d=false:=by exact rfl)(hc:CellAt ds off u:=by first | exact (Nk (by first | omega | (simp;omega))) | exact (Rl (by first | omega | (simp;omega)))):Quiet P hp ⟨dd,.load t x,ty,ps,af,gd⟩ arg (.d u):=TQ hx hh ht hd hc
theorem Bd{x:Operand}{S:TypeId}{fs:Array Field}{f n b n' b' T:Nat}{fd:Field}{d:TypeDesc}{z z':Value}{ds r:List D}(hx:arg x = .d (GT T ds):=by first | exact ao rfl | exact ah rfl)(hS:Tab P S (.struct fs) n b z:=by exact (Ad rfl))(hf:fs[f]? = some fd:=by exact rfl)(he:Tab P fd.type d n' b' z':=by exact (Ad rfl))(hn:Nat.beq n' 0=false:=by exact rfl)(hr:Jr fd.offset ds=some r:=by exact rfl):Quiet P hp ⟨dd,.fieldAddr S x f,ty,ps,af,gd⟩ arg (.d (GT T r)):=CH hx hS hf he hn hr
theorem AB{x:Operand}{S:TypeId}{fs:Array Field}{f n b n' b' id off:Nat}{fd:Field}{d:TypeDesc}{z z':Value}(hx:arg x = .ptr id off:=by first | exact ao rfl | exact ah rfl)(hS:Tab P S (.struct fs) n b z:=by exact (Ad rfl))(hf:fs[f]? = some fd:=by exact rfl)(he:Tab P fd.type d n' b' z':=by exact (Ad rfl))(hn:Nat.beq n' 0=false:=by exact rfl):Quiet P hp ⟨dd,.fieldAddr S x f,ty,ps,af,gd⟩ arg (.ptr id (off+fd.offset)):=Be hx hS hf he hn
theorem Dl{α:Type}{x y:Operand}{t:TypeId}{e n b n' b' T sz:Nat}{d:TypeDesc}{z z':Value}{f:α->List D}{a:α}{l:List α}{κ:IntKind}(hx:FY hp (arg x)=some (slD T sz ((a::l).map f)):=by exact rfl)(hy:arg y = .d (ex (.int κ 0)):=by first | exact ao rfl | exact ah rfl)(ht:Tab P t (.slice e) n b z:=by exact (Ad rfl))(he:Tab P e d n' b' z':=by exact (Ad rfl))(hsz:n'=sz:=by exact rfl):Quiet P hp ⟨dd,.indexAddr t x y,ty,ps,af,gd⟩ arg (.d (GT T (f a))):=Rc hx hy ht he hsz
theorem AD{α:Type}[Inhabited α]{x y:Operand}{t:TypeId}{e n b n' b' T sz k:Nat}{d:TypeDesc}{z z':Value}{f:α->List D}{l:List α}{κ:IntKind}(hx:FY hp (arg x)=some (slD T sz (l.map f)):=by exact rfl)(hy:arg y = .d (ex (.int κ (k:Nat))):=by first | exact ao rfl | exact ah rfl)(ht:Tab P t (.slice e) n b z:=by exact (Ad rfl))(he:Tab P e d n' b' z':=by exact (Ad rfl))(hsz:n'=sz:=by exact rfl)(hk:k<l.length:=by first | omega | (simp;omega)):Quiet P hp ⟨dd,.indexAddr t x y,ty,ps,af,gd⟩ arg (.d (GT T (f (l.getD k default)))):=BA hx hy ht he hsz hk
theorem Ee{x y:Operand}{t:TypeId}{e n b n' b' len id off k:Nat}{d:TypeDesc}{z z':Value}{κ:IntKind}(hx:arg x = .ptr id off:=by first | exact ao rfl | exact ah rfl)(hy:arg y = .d (ex (.int κ ((k:Nat):Int))):=by first | exact ao rfl | exact ah rfl)(ht:Tab P t (.array len e) n b z:=by exact (Ad rfl))(he:Tab P e d n' b' z':=by exact (Ad rfl))(hk:k<len:=by first | omega | (simp;omega)):Quiet P hp ⟨dd,.indexAddr t x y,ty,ps,af,gd⟩ arg (.ptr id (off+k*n')):=UJ hx hy ht he hk
theorem QY{x y:Operand}{t:TypeId}{e n b b' k:Nat}{d:TypeDesc}{z z':Value}{l:List Nat}{κ:IntKind}(hx:arg x = .d (wD l):=by first | exact ao rfl | exact ah rfl)(hy:arg y = .d (ex (.int κ ((k:Nat):Int))):=by first | exact ao rfl | exact ah rfl)(ht:Tab P t (.slice e) n b z:=by exact (Ad rfl))(he:Tab P e d 1 b' z':=by exact (Ad rfl))(hk:k<l.length:=by first | omega | (simp;omega)):Quiet P hp ⟨dd,.indexAddr t x y,ty,ps,af,gd⟩ arg (.d (GT 84 [ex (.int .u32 (l.getD k 0:Nat))])):=Rb hx hy ht he hk
theorem EE{α:Type}{x y:Operand}{t:TypeId}{e n b n' b' T sz:Nat}{d:TypeDesc}{z z':Value}{f:α->List D}{a:α}{l:List α}(hx:FY hp (arg x)=some (slD T sz ((a::l).map f)):=by exact rfl)(hy:arg y = .d (ex (.int .i64 1)):=by first | exact ao rfl | exact ah rfl)(ht:Tab P t (.slice e) n b z:=by exact (Ad rfl))(he:Tab P e d n' b' z':=by exact (Ad rfl))(hsz:n'=sz:=by exact rfl):Quiet P hp ⟨dd,.slice t x (some y) none none,ty,ps,af,gd⟩ arg (.d (slD T sz (l.map f))):=SA hx hy ht he hsz
theorem Bb{α:Type}{x:Operand}{t:TypeId}{e n b T sz:Nat}{z:Value}{f:α->List D}{l:List α}(hx:FY hp (arg x)=some (slD T sz (l.map f)):=by exact rfl)(ht:Tab P t (.slice e) n b z:=by exact (Ad rfl)):Quiet P hp ⟨dd,.call { callee:=.builtin .len,args:=#[x],argTypes:=#[t] },ty,ps,af,gd⟩ arg (.d (ex (.int .i64 (l.length:Nat)))):=DH hx ht
theorem TO{x:Operand}{t:TypeId}{e n b:Nat}{z:Value}{l:List Nat}(hx:arg x = .d (wD l):=by first | exact ao rfl | exact ah rfl)(ht:Tab P t (.slice e) n b z:=by exact (Ad rfl)):Quiet P hp ⟨dd,.call { callee:=.builtin .len,args:=#[x],argTypes:=#[t] },ty,ps,af,gd⟩ arg (.d (ex (.int .i64 (l.length:Nat)))):=TP hx ht
theorem Cq{T U:TypeId}{x y:Operand}{a:Nat}(hx:arg x = .d (ex (.int .i64 (a:Nat))):=by first | exact ao rfl | exact ah rfl)(hy:arg y = .d (ex (.int .i64 1)):=by first | exact ao rfl | exact ah rfl)(h1:(a:Int)<9223372036854775807:=by omega):Quiet P hp ⟨dd,.binOp .add T x y U,ty,ps,af,gd⟩ arg (.d (ex (.int .i64 ((a+1:Nat):Int)))):=Gx hx hy h1
theorem Sy{T U:TypeId}{x y:Operand}{a b:Int}(hx:arg x = .d (ex (.int .i64 a)):=by first | exact ao rfl | exact ah rfl)(hy:arg y = .d (ex (.int .i64 b)):=by first | exact ao rfl | exact ah rfl)(h1:-9223372036854775808<=a+b:=by omega)(h2:a+b<=9223372036854775807:=by omega):Quiet P hp ⟨dd,.binOp .add T x y U,ty,ps,af,gd⟩ arg (.d (ex (.int .i64 (a+b)))):=UK hx hy h1 h2
theorem Lp{T U:TypeId}{x y:Operand}{a:Nat}(hx:arg x = .d (ex (.int .i64 ((a:Nat):Int))):=by first | exact ao rfl | exact ah rfl)(hy:arg y = .d (ex (.int .i64 1)):=by first | exact ao rfl | exact ah rfl)(h0:0<a:=by omega)(h1:(a:Int)<9223372036854775807:=by omega):Quiet P hp ⟨dd,.binOp .sub T x y U,ty,ps,af,gd⟩ arg (.d (ex (.int .i64 ((a-1:Nat):Int)))):=FA hx hy h0 h1
theorem AL{op:BinOp}{T U:TypeId}{x y:Operand}{k:IntKind}{a b:Int}(hb:Ku op=true:=by exact rfl)(hx:arg x = .d (ex (.int k a)):=by first | exact ao rfl | exact ah rfl)(hy:arg y = .d (ex (.int k b)):=by first | exact ao rfl | exact ah rfl)(hc:AG op a b:=by first | (simp only [AG,List.length_cons,List.length_nil];omega) | (simp [AG];done) | (simp [AG];omega)):Quiet P hp ⟨dd,.binOp op T x y U,ty,ps,af,gd⟩ arg (.d (ex (.bool true))):=BV hb hx hy hc
theorem AA{op:BinOp}{T U:TypeId}{x y:Operand}{k:IntKind}{a b:Int}(hb:Ku op=true:=by exact rfl)(hx:arg x = .d (ex (.int k a)):=by first | exact ao rfl | exact ah rfl)(hy:arg y = .d (ex (.int k b)):=by first | exact ao rfl | exact ah rfl)(hc:¬AG op a b:=by first | (simp only [AG,List.length_cons,List.length_nil];omega) | (simp [AG];done) | (simp [AG];omega)):Quiet P hp ⟨dd,.binOp op T x y U,ty,ps,af,gd⟩ arg (.d (ex (.bool false))):=Cc hb hx hy hc
theorem Ov{op:BinOp}{T U:TypeId}{x y:Operand}{k:IntKind}{a b:Int}{c:Bool}(hx:arg x = .d (ex (.int k a)):=by first | exact ao rfl | exact ah rfl)(hy:arg y = .d (ex (.int k b)):=by first | exact ao rfl | exact ah rfl)(hc:Mz op a b=some c:=by exact rfl):Quiet P hp ⟨dd,.binOp op T x y U,ty,ps,af,gd⟩ arg (.d (ex (.bool c))):=GR hx hy hc
theorem KI{x y:Operand}{T U:TypeId}{a b:Bool}(hx:arg x = .d (ex (.bool a)):=by first | exact ao rfl | exact ah rfl)(hy:arg y = .d (ex (.bool b)):=by first | exact ao rfl | exact ah rfl)(hT:P.underlying T=some .bool:=by kernel_rfl):Quiet P hp ⟨dd,.binOp .eql T x y U,ty,ps,af,gd⟩ arg (.d (ex (.bool (a==b)))):=Re hx hy hT
theorem Cn{T:TypeId}{x:Operand}{a:Bool}(hx:arg x = .d (ex (.bool a)):=by first | exact ao rfl | exact ah rfl):Quiet P hp ⟨dd,.unOp .not T x,ty,ps,af,gd⟩ arg (.d (ex (.bool (!a)))):=Bu hx
theorem UF{x y:Operand}{tys:Array TypeId}{k:IntKind}{a b:Int}(hx:arg x = .d (ex (.int k a)):=by first | exact ao rfl | exact ah rfl)(hy:arg y = .d (ex (.int k b)):=by first | exact ao rfl | exact ah rfl):Quiet P hp ⟨dd,.call { callee:=.builtin .max,args:=#[x,y],argTypes:=tys },ty,ps,af,gd⟩ arg (.d (ex (.int k (Max.max a b)))):=UI hx hy
theorem UE{x y:Operand}{tys:Array TypeId}{k:IntKind}{a b:Int}(hx:arg x = .d (ex (.int k a)):=by first | exact ao rfl | exact ah rfl)(hy:arg y = .d (ex (.int k b)):=by first | exact ao rfl | exact ah rfl):Quiet P hp ⟨dd,.call { callee:=.builtin .min,args:=#[x,y],argTypes:=tys },ty,ps,af,gd⟩ arg (.d (ex (.int k (Min.min a b)))):=UH hx hy
theorem Gf{x:Operand}{i:Nat}{ds:List D}{r:D}(hx:arg x = .d (Fm ds):=by first | exact ao rfl | exact ah rfl)(hr:Se i ds=some r:=by exact rfl):Quiet P hp ⟨dd,.extract x i,ty,ps,af,gd⟩ arg (.d r):=Ly hx hr
theorem Bv{c x y:Operand}{r:AV}(hx:arg x=r:=by first | exact ao rfl | exact ah rfl)(hc:arg c = .d (ex (.bool true)):=by first | exact ao rfl | exact ah rfl):Quiet P hp ⟨dd,.pick c x y,ty,ps,af,gd⟩ arg r:=Cb hx hc
theorem Ba{c x y:Operand}{r:AV}(hy:arg y=r:=by first | exact ao rfl | exact ah rfl)(hc:arg c = .d (ex (.bool false)):=by first | exact ao rfl | exact ah rfl):Quiet P hp ⟨dd,.pick c x y,ty,ps,af,gd⟩ arg r:=BF hy hc
theorem Aq{f:Operand}{args:List Operand}{tys:Array TypeId}{fid:FuncId}{ds:List D}{r:D}(hc:Abs P fid ds r)(hf:arg f = .d (ex (.func (.func fid) #[] #[])):=by first | exact ao rfl | exact ah rfl)(ha:ArgsLe hp arg args ds:=by repeat (first | exact ArgsLe.nil | refine ArgsLe.cons rfl (D.le.refl _) ?_ | refine ArgsLe.cons rfl Ai ?_)):Quiet P hp ⟨dd,.call { callee:=.value f,args:=args.toArray,argTypes:=tys },ty,ps,af,gd⟩ arg (.d r):=Ak hf hc ha
end
section
variable {P:Program} {s0:An} {n:Nat} {ops:Array Oper} {Q:Exit->AS->Prop} {rest:List Oper} {fr:List (Nat×AV)} {hp:List Ow} {ty:TypeId} {ps:String} {af:Array Edge} {d:Nat} {op:Op} {r:AV}
theorem Wq(hq:Quiet P hp ⟨some d,op,ty,ps,af,none⟩ (AS.arg ⟨fr,hp⟩) r)(h:AWl P s0 n ops Q rest ⟨(d,r)::fr,hp⟩)(hs:Cd op=true:=by exact rfl)(hd:Nat.blt d n=true:=by exact rfl):AWl P s0 n ops Q (⟨some d,op,ty,ps,af,none⟩::rest) ⟨fr,hp⟩:=By hs hd ⟨r,hq,h⟩
theorem Wg{j:Nat}{b:Bool}{e:Nat}(hq:Quiet P hp ⟨some d,op,ty,ps,af,some (j,b)⟩ (AS.arg ⟨fr,hp⟩) r)(h:AWl P s0 n ops Q rest ⟨(d,r)::fr,hp⟩)(hy:(ops[j]?).bind (·.dst)=some e:=by exact rfl)(hl:CC fr e=some (.d (ex (.bool b))):=by exact rfl)(hen:Nat.blt e n=true:=by exact rfl)(hs:Cd op=true:=by exact rfl)(hd:Nat.blt d n=true:=by exact rfl):AWl P s0 n ops Q (⟨some d,op,ty,ps,af,some (j,b)⟩::rest) ⟨fr,hp⟩:=Cs hy hl hen hs hd ⟨r,hq,h⟩
theorem Ws{j:Nat}{b:Bool}{u:Value}{e:Nat}(h:AWl P s0 n ops Q rest ⟨(d,.d (ex undef))::fr,hp⟩)(hy:(ops[j]?).bind (·.dst)=some e:=by exact rfl)(hl:CC fr e=some (.d (ex u)):=by exact rfl)(hne:Ug u b=false:=by exact rfl)(hen:Nat.blt e n=true:=by exact rfl)(hd:Nat.blt d n=true:=by exact rfl):AWl P s0 n ops Q (⟨some d,op,ty,ps,af,some (j,b)⟩::rest) ⟨fr,hp⟩:=DS hy hl hne hen hd h
end
section
variable {P:Program} {σ:AS} {K:List HR->Prop} {acc acc':List HR} {o:Oper} {L:List Oper} {e:List (Nat×Nat)} {es:List (List (Nat×Nat))} {r:AV}
theorem Xq(hq:Quiet P σ.hp o (JD σ acc e) r)(h:HS P σ K acc' L es)(hg:o.guard=none:=by exact rfl)(ha:HW acc (.av r)=some acc':=by exact rfl):HS P σ K acc (o::L) (e::es):=⟨_,PH hg hq,_,ha,h⟩
theorem Xg{j:Nat}{b:Bool}(hq:Quiet P σ.hp o (JD σ acc e) r)(h:HS P σ K acc' L es)(hg:o.guard=some (j,b):=by exact rfl)(hj:acc[j]? = some (.av (.d (ex (.bool b)))):=by exact rfl)(ha:HW acc (.av r)=some acc':=by exact rfl):HS P σ K acc (o::L) (e::es):=⟨_,Bm hg hj hq,_,ha,h⟩
theorem Xs{j:Nat}{b:Bool}{u:Value}(h:HS P σ K acc' L es)(hg:o.guard=some (j,b):=by exact rfl)(hj:acc[j]? = some (.av (.d (ex u))):=by exact rfl)(hne:Ug u b=false:=by exact rfl)(ha:HW acc (.av (.d (ex undef)))=some acc':=by exact rfl):HS P σ K acc (o::L) (e::es):=⟨_,JJ hg hj hne,_,ha,h⟩
theorem Xn{T n b:Nat}{d:TypeDesc}{z:Value}(h:HS P σ K acc' L es)(hg:o.guard=none:=by exact rfl)(hop:o.op = .alloc T:=by exact rfl)(ht:Tab P T d n b z:=by exact Ad rfl)(hT:T≠84:=by decide)(h1:Fp z.cells.toList=true:=by exact rfl)(ha:HW acc (.new T z.cells.toList)=some acc':=by exact rfl):HS P σ K acc (o::L) (e::es):=⟨_,HStep.n hg ht hop hT h1,_,ha,h⟩
end
end Go.Proofs.YtclmdofdjbdfiaaGreat
set_option linter.unusedSimpArgs false
set_option linter.unusedVariables false
namespace Go.Proofs.YtclmdofdjbdfiaaGreat
open Go.RowKit
section
variable {P:Program} {s0:An} {n:Nat} {ops:Array Oper} {Q:Exit->AS->Prop} {σ:AS}
theorem Yn{K:AS->Prop}(h:K σ):AThen K Q .normal σ:=FB h
theorem Y0{K:AS->Prop}(h:K σ):AWl P s0 n ops (AThen K Q) [] σ:=AWl.nil (FB h)
theorem Y1{y:Code}{i:Nat}{l:List Oper}(h:AWl P s0 n l.toArray (AThen (AWp P s0 n y Q) Q) l σ):AWp P s0 n (.seq (.region i l.toArray false) y) Q σ:=Ae (AWp.region h)
theorem Ys{K:AS->Prop}(h:K σ):AWp P s0 n .skip (AThen K Q) σ:=Bg (FB h)
end
theorem Yf{P:Program}{fn:Func}{r:D}{σ:AS}{t:Nat}{av:AV}(hr:fn.results=#[.tmp t]:=by exact rfl)(h:CC σ.fr t=some av:=by exact rfl)(hx:FY σ.hp av=some r:=by exact rfl):Fin P fn r .ret σ:=BG (by rw [hr];exact Rets.of1 (ResV.tmp h hx) (D.le.refl _))
theorem Ab {P : Program} {f : FuncId} {fn : Func} {c : Code} {ds : List D} {r : D} (hf : P.funcs[f]? = some fn) (h : ∀ s0, AWp P s0 fn.ntmps c (Fin P fn r) ⟨params 0 ds, []⟩) (hb : fn.body = some c := by exact rfl) (h1 : (fn.name == "runtime.NumGoroutine") = false := by kernel_rfl) (h2 : fn.body.isNone = false := by kernel_rfl) (hn : Nat.ble ds.length fn.ntmps = true := by exact rfl) : Abs P f ds r := Abs.intro hf hb (AN hf h1 h2) hn h
section
variable {P:Program} {s0:An} {n:Nat} {ops:Array Oper} {Q:Exit->AS->Prop} {fr:List (Nat×AV)} {hp hp':List Ow} {rest:List Oper} {ty:TypeId} {ps:String} {af:Array Edge} {d:Nat} {x:Operand} {r:AV}
theorem Wm(h:AWl P s0 n ops Q rest ⟨(d,r)::fr,hp⟩)(hx:AS.arg ⟨fr,hp⟩ x=r:=by exact ao rfl)(hd:Nat.blt d n=true:=by exact rfl):AWl P s0 n ops Q (⟨some d,.move x,ty,ps,af,none⟩::rest) ⟨fr,hp⟩:=Wq (AF hx) h rfl hd
theorem Wa(h:AWl P s0 n ops Q rest ⟨(d,r)::fr,hp⟩)(hx:AS.arg ⟨fr,hp⟩ x=r:=by exact ao rfl)(hd:Nat.blt d n=true:=by exact rfl):AWl P s0 n ops Q (⟨some d,.assign x,ty,ps,af,none⟩::rest) ⟨fr,hp⟩:=Wq (AC hx) h rfl hd
theorem Ct{y z:Code}(h:AWp P s0 n y Q ⟨fr,hp⟩)(hx:AS.arg ⟨fr,hp⟩ x = .d (ex (.bool true)):=by exact ao rfl):AWp P s0 n (.cond x y z) Q ⟨fr,hp⟩:=KL hx h
theorem Cf{y z:Code}(h:AWp P s0 n z Q ⟨fr,hp⟩)(hx:AS.arg ⟨fr,hp⟩ x = .d (ex (.bool false)):=by exact ao rfl):AWp P s0 n (.cond x y z) Q ⟨fr,hp⟩:=KM hx h
theorem Sf{T T0:TypeId}{t:TypeDesc}{b id m:Nat}{z:Value}{y:Operand}{cells:List AV}{ds:List D}(h:AWl Tryz.prog s0 n ops Q rest ⟨fr,hp'⟩)(hx:AS.arg ⟨fr,hp⟩ x = .ptr id 0:=by exact ao rfl)(hy:AS.arg ⟨fr,hp⟩ y = .d (BX ds):=by exact ao rfl)(hh:hp[id]? = some (.var T0 cells):=by exact rfl)(ht:Tab Tryz.prog T t m b z:=by exact Ad rfl)(hm:ds.length=m:=by exact rfl)(hoff:cells.length=m:=by exact rfl)(hs:HB hp id (.var T0 (ds.map .d))=some hp':=by exact rfl):AWl Tryz.prog s0 n ops Q (⟨none,.store T x y,ty,ps,af,none⟩::rest) ⟨fr,hp⟩:=TX hx hy hh ht hm hoff hs h
theorem Al{T:TypeId}{d:TypeDesc}{m b k t:Nat}{z:Value}{c:List D}(h:AWl Tryz.prog s0 n ops Q rest ⟨(t,.ptr k 0)::fr,hp'⟩)(ht:Tab Tryz.prog T d m b z:=by exact Ad rfl)(hT:Nat.beq T 84=false:=by exact rfl)(h1:Fp z.cells.toList=true:=by exact rfl)(hd:Nat.blt t n=true:=by exact rfl)(hc:Tz z.cells.toList=some c:=by exact rfl)(hk:Hk hp=some k:=by exact rfl)(hs:EO hp (.var T (c.map .d))=some hp':=by exact rfl):AWl Tryz.prog s0 n ops Q (⟨some t,.alloc T,ty,ps,af,none⟩::rest) ⟨fr,hp⟩:=UR ht hT h1 hd hc hk hs h
theorem Bx{T:TypeId}{ds:List D}{k t:Nat}(h:AWl P s0 n ops Q rest ⟨(t,.ptr k 0)::fr,hp'⟩)(hx:AS.arg ⟨fr,hp⟩ x = .d (BX ds):=by exact ao rfl)(hT:Nat.beq T 84=false:=by exact rfl)(hd:Nat.blt t n=true:=by exact rfl)(hk:Hk hp=some k:=by exact rfl)(hs:EO hp (.var T (ds.map .d))=some hp':=by exact rfl):AWl P s0 n ops Q (⟨some t,.box T x,ty,ps,af,none⟩::rest) ⟨fr,hp⟩:=UQ hx hT hd hk hs h
theorem Ap{x y:Operand}{t T T2 sz bytes id m b e:Nat}{z z':Value}{d:TypeDesc}{rows r2:List (List D)}{fr':List (Nat×AV)}(h:AWl Tryz.prog s0 n ops Q rest ⟨(e,.own id)::fr',hp'⟩)(hx:AS.arg ⟨fr,hp⟩ x = .own id:=by exact ao rfl)(hy:FY hp (AS.arg ⟨fr,hp⟩ y)=some (slD T2 sz r2):=by exact rfl)(hh:hp[id]? = some (.row T sz rows):=by exact rfl)(ht:Tab Tryz.prog t (.slice T) m b z':=by exact Ad rfl)(hT:Tab Tryz.prog T d sz bytes z:=by exact Ad rfl)(hzs:z.cells.size=sz:=by exact rfl)(hd:Nat.blt e n=true:=by exact rfl)(hbytes:(rows.length+r2.length)*bytes<=140737488355328:=by simp;omega)(h63:rows.length+r2.length<=4611686018427387904:=by simp;omega)(hf:FD id (slD T sz rows) fr=some fr':=by exact rfl)(hpl:PlainHp id hp:=by repeat (first | exact PlainHp.nil | refine PlainHp.var ?_ | refine Nd ?_ | refine LA ?_ | refine PlainHp.obj ?_ | refine PlainHp.pin rfl ?_ | refine PlainHp.varA rfl ?_))(hs:HB hp id (.row T sz (rows++r2))=some hp':=by exact rfl):AWl Tryz.prog s0 n ops Q (⟨some e,.call { callee:=.builtin .append,args:=#[x,y],argTypes:=#[t,t] },ty,ps,af,none⟩::rest) ⟨fr,hp⟩:=TZ hx hy hh ht hT hzs hd hbytes h63 hf hpl hs h
end
section
variable {hp:List Ow} {m T z:Nat} {l l':List Ow}
theorem Yr{r:List (List D)}(h:HpLe hp m l l'):HpLe hp m (.row T z r::l) (.row T z r::l'):=HpLe.cons (CI rfl) h
theorem Yv{c:List D}(h:HpLe hp m l l'):HpLe hp m (.var T (c.map .d)::l) (.var T (c.map .d)::l'):=HpLe.cons (Gy rfl) h
theorem Yd{t:Nat}{x:D}{f r:List (Nat×AV)}(h:FrLe hp m f r)(hk:CC f t=some (.d x):=by exact rfl):FrLe hp m f ((t,.d x)::r):=FrLe.cons hk (AVle.d rfl) h
theorem Yp{t i o:Nat}{f r:List (Nat×AV)}(h:FrLe hp m f r)(hk:CC f t=some (.ptr i o):=by exact rfl)(hi:Nat.blt i m=true:=by exact rfl):FrLe hp m f ((t,.ptr i o)::r):=FrLe.cons hk (SR hi) h
end
theorem Po{hp:List Ow}{av:AV}{y:D}(h:FY hp av=some y)(h1:One hp av:=by first | exact Ht rfl | exact LB | exact LC):PartOk hp av [y]:=PartOk.one h h1
theorem Dr{P:Program}{s0:An}{n:Nat}{Q:Exit->AS->Prop}{fr:List (Nat×AV)}{hp:List Ow}{id:Nat}{L:List Oper}(es:List (List (Nat×Nat)))(bs:List (List Nat))(h:HS P ⟨fr,hp⟩ (λrs=>∃τ,Lj fr hp es.length L rs=some τ/\AWl P s0 n L.toArray Q (L.drop es.length) τ) [] L es)(hm:P.follows .mixedOrders=true:=by kernel_rfl)(hlen:(es.length==bs.length&&Nat.ble es.length L.length)=true:=by exact rfl)(hok:Cw L (Dn 0 es bs)=true:=by kernel_rfl)(hd:DX L es.length n=true:=by kernel_rfl)(hlt:Ho 0 L es=true:=by kernel_rfl):AWp P s0 n (.region id L.toArray true) Q ⟨fr,hp⟩:=LG (Nj hm) es bs hlen hok hd hlt h
theorem K4{e:Nat}{a b c d:Oper}{l l':List Oper}(h:AddE e l l'):AddE e (a::b::c::d::l) (a::b::c::d::l'):=.keep (.keep (.keep (.keep h)))
def fT(f:Rat->Rat)(t:Tm):Tm:=⟨f t.c,t.m⟩
def EX(f:Rat->Rat)(P Q:List Tm):List Tm:=Dq P (Q.map (fT f))
theorem Tr{f:Rat->Rat}{s t:Tm}{P Q:List Tm}(h:lx s.m t.m=1):EX f (s::P) (t::Q)=s::EX f P (t::Q):=by
 unfold EX
 rw [List.map_cons,Dq,if_pos (show 0<lx s.m (fT f t).m by show 0<lx s.m t.m;omega)]
theorem Tq{f:Rat->Rat}{s t:Tm}{P Q:List Tm}(h:lx s.m t.m = -1):EX f (s::P) (t::Q)=fT f t::EX f (s::P) Q:=by
 unfold EX
 rw [List.map_cons,Dq,if_neg (show ¬0<lx s.m (fT f t).m by show ¬0<lx s.m t.m;omega),if_pos (show lx s.m (fT f t).m<0 by show lx s.m t.m<0;omega)]
theorem Pt{f:Rat->Rat}{s t:Tm}{P Q:List Tm}(h:lx s.m t.m=0):EX f (s::P) (t::Q)=if s.c+f t.c=0 then EX f P Q else ⟨s.c+f t.c,s.m⟩::EX f P Q:=by
 unfold EX
 rw [List.map_cons,Dq,if_neg (show ¬0<lx s.m (fT f t).m by show ¬0<lx s.m t.m;omega),if_neg (show ¬lx s.m (fT f t).m<0 by show ¬lx s.m t.m<0;omega)]
 rfl
theorem Mg{f:Rat->Rat}{P Q:List Tm}(h:P=[]\/Q=[]):EX f P Q=P++Q.map (fT f):=by
 rcases h with rfl | rfl
 .simp [EX,Dq]
 .simp [EX,KW]
theorem Kq(P Q:List Tm)(fid:FuncId)(f:Rat->Rat)(N M:Nat)(hP:PSz P N)(hQ:PSz Q M)(hNM:N+M+1<=4398046511104)(hfs:∀q,RSz q M->RSz (f q) M)(hn:P.length+Q.length<=100000)
  (hf:∀q,RSz q M->Abs Tryz.prog fid [BX (CL q)] (BX (CL (f q)))) :
  Abs Tryz.prog 40 [Bw P,Bw Q,ex (.func (.func fid) #[] #[])] (Bw (EX f P Q)):=by
 refine Ab Tryz.func40 λs0=>?_
 rw [Tryz.ntmps40]
 refine Y1<|Wa<|Y0<|Y1<|Wm ?_;refine Wq Bb ?_;refine Wm ?_;refine Wq Bb ?_;refine Wq Sy ?_;refine TY (ao rfl) (ao rfl) (Ad rfl) (Ad rfl) (by omega) (by omega) rfl rfl rfl rfl rfl rfl ?_;refine Wa<|Y0<|Ae<|AWp.block ?_
 refine CA (λm σ=>∃P' Q' R,R++EX f P' Q'=EX f P Q/\PSz P' N/\PSz Q' M/\R.length+P'.length+Q'.length<=100000/\m=P'.length+Q'.length/\σ=⟨[(0,.d (Bw P')),(1,.d (Bw Q')),(2,.d (ex (.func (.func fid) #[] #[]))),(7,.own 0)],[.row 33 12 (R.map GW)]⟩) ?le ⟨P,Q,[],rfl,hP,hQ,by simpa using hn,rfl,rfl⟩ ?round
 case le=>exact AZ (by exact Yd<|Yd<|Yd<|FrLe.cons rfl (AVle.own rfl)<|FrLe.nil) (by exact Yr<|HpLe.nil)
 case round=>
  rintro m _ ⟨P',Q',R,heq,hP',hQ',hl,rfl,rfl⟩
  rcases (show (0<P'.length/\0<Q'.length)\/P'.length=0\/(0<P'.length/\Q'.length=0) by omega) with ⟨h1,h2⟩ | h1 | ⟨h1,h2⟩
  .obtain ⟨s, P', rfl⟩:∃s P1, P'=s::P1:=by cases P' with | nil=>simp at h1 | cons s P1=>exact ⟨s, P1, rfl⟩
   obtain ⟨t,Q',rfl⟩:∃t Q1,Q'=t::Q1:=by cases Q' with | nil=>simp at h2 | cons t Q1=>exact ⟨t,Q1,rfl⟩
   simp only [List.length_cons] at hl
   have hs:=hP' s (by simp)
   have ht:=hQ' t (by simp)
   have hP1:PSz P' N:=λu hu=>hP' u (by simp [hu])
   have hQ1:PSz Q' M:=λu hu=>hQ' u (by simp [hu])
   refine Ae<|Y1<|Wm ?_;refine Wq Bb ?_;refine Wq AL ?_;refine Wm ?_;refine Wg Ah ?_;refine Wg Bb ?_;refine Wg AL ?_;refine Wq Bv ?_;refine Y0<|Ct<|Ys<|AWp.block<|Ae ?_
   refine Dr [[],[(25,0)],[(26,1)],[(27,2)],[],[(29,4)],[(30,5)],[(31,6)],[(28,3),(32,7)]] [[],[0],[0,1],[0,1,2],[],[4],[4,5],[4,5,6],[0,1,2,3,4,5,6,7]] ?_
   refine Xq Ah ?_;refine Xq Dl ?_;refine Xq Bd ?_;refine Xq AQ ?_;refine Xq Ah ?_;refine Xq Dl ?_;refine Xq Bd ?_;refine Xq AQ ?_;refine Xq (Aq (FO s.m t.m)) ?_;refine ⟨_,rfl,?_⟩
   rcases Jb s.m t.m with hc | hc | hc
   .have hc':DQ s.m t.m = -1:=by rw [<-FQ]; exact hc
    simp only [hc']
    refine Y0<|AWp.block<|Y1 ?_;refine Wq AA ?_;refine Wa<|Y0<|Cf<|Y1 ?_;refine Wq AL ?_;refine Wa<|Y0<|Ct<|Ae ?_
    refine Dr [[],[],[],[(75,2)],[(76,3)],[(77,4)],[(74,1),(78,5)],[],[(80,7)],[(81,8)],[(82,9)],[(79,6),(83,10)],[(84,11)]] [[],[],[],[2],[2,3],[2,3,4],[1,2,3,4,5],[],[7],[7,8],[7,8,9],[1,2,3,4,5,6,7,8,9,10],[1,2,3,4,5,6,7,8,9,10,11]] ?_
    refine Xq Ah ?_;refine Xq Ah ?_;refine Xq Ah ?_;refine Xq Dl ?_;refine Xq Bd ?_;refine Xq Ge ?_;refine Xq (Aq (hf t.c ht)) ?_;refine Xq Ah ?_;refine Xq Dl ?_;refine Xq Bd ?_;refine Xq AQ ?_;(refine Hq rfl ?_;refine CW (Ad rfl) rfl rfl rfl ?_;(repeat ((first | refine ⟨_,Ck (ah rfl),?_⟩ | refine ⟨_,Po rfl,?_⟩);refine ⟨_,rfl,?_⟩));refine ⟨_,rfl,?_⟩;refine ⟨_,rfl,?_⟩);(refine Xq (Cl (ah rfl) (Ad rfl) (Ad rfl) rfl rfl rfl rfl rfl) ?_);refine ⟨_,rfl,?_⟩
    (refine Ap ?_);refine Wa<|Y0<|AWp.region<|Wm ?_;refine Wq EE ?_;refine Wa<|AWl.nil<|AE<|AE ?_
    refine ALoop.next _ ?_ ⟨s::P',Q',R++[fT f t],?_,hP',hQ1,?_,rfl,rfl⟩ ?_
    .simp only [List.length_cons];omega
    .rw [Tq hc] at heq
     rw [<-heq];simp
    .simp only [List.length_cons,List.length_append,List.length_nil];omega
    .exact AZ (by exact Yd<|Yd<|Yd<|FrLe.cons rfl (AVle.own rfl)<|FrLe.nil) (by refine HpLe.cons (CI (Dd GW R (fT f t))) ?_;exact HpLe.nil)
   .have hc':DQ s.m t.m=0:=by rw [<-FQ]; exact hc
    simp only [hc']
    refine Y0<|AWp.block<|Y1 ?_;refine Wq AA ?_;refine Wa<|Y0<|Cf<|Y1 ?_;refine Wq AA ?_;refine Wa<|Y0<|Cf<|Ae<|Ae ?_
    refine Dr [[],[(34,0)],[(35,1)],[(36,2)],[],[],[(39,5)],[(40,6)],[(41,7)],[(38,4),(42,8)],[(37,3),(43,9)],[]] [[],[0],[0,1],[0,1,2],[],[],[5],[5,6],[5,6,7],[4,5,6,7,8],[0,1,2,3,4,5,6,7,8,9],[]] ?_
    refine Xq Ah ?_;refine Xq Dl ?_;refine Xq Bd ?_;refine Xq Ge ?_;refine Xq Ah ?_;refine Xq Ah ?_;refine Xq Dl ?_;refine Xq Bd ?_;refine Xq Ge ?_;refine Xq (Aq (hf t.c ht)) ?_;refine Xq (Aq (TW s.c (f t.c) N M hs (hfs _ ht) hNM)) ?_;refine Xn ?_;refine ⟨_,rfl,?_⟩
    by_cases hz:s.c+f t.c=0
    .have hsg:(s.c+f t.c).num.sign=0:=by rw [hz]; rfl
     refine Sf ?_;refine Y0<|Y1 ?_;refine Wq AO ?_;refine Wq (Aq (FZ (s.c+f t.c))) ?_;refine Wq AA ?_;refine Y0<|Cf<|Ys ?_
     refine Dr [[],[(57,0)],[],[(59,2)],[(58,1)]] [[],[0],[],[2],[0,1]] ?_
     refine Xq Ah ?_;refine Xq EE ?_;refine Xq Ah ?_;refine Xq EE ?_;refine Xq KJ ?_;refine ⟨_,rfl,?_⟩
     refine Wa<|AWl.nil<|AE<|AE ?_
     refine ALoop.next _ ?_ ⟨P',Q',R,?_,hP1,hQ1,?_,rfl,rfl⟩ ?_
     .simp only [List.length_cons];omega
     .rw [Pt hc,if_pos hz] at heq
      exact heq
     .omega
     .exact AZ (by exact Yd<|Yd<|Yd<|FrLe.cons rfl (AVle.own rfl)<|FrLe.nil) (by exact Yr<|HpLe.nil)
    .have hsg:(s.c+f t.c).num.sign≠0:=by simpa using hz
     refine Sf ?_;refine Y0<|Y1 ?_;refine Wq AO ?_;refine Wq (Aq (FZ (s.c+f t.c))) ?_;refine Wq AL ?_;refine Y0<|Ct ?_
     refine Dr [[],[],[],[(50,2)],[(51,3)],[(52,4)],[(49,1),(53,5)],[(54,6)]] [[],[],[],[2],[2,3],[2,3,4],[1,2,3,4,5],[1,2,3,4,5,6]] ?_
     refine Xq Ah ?_;refine Xq AO ?_;refine Xq Ah ?_;refine Xq Dl ?_;refine Xq Bd ?_;refine Xq AQ ?_;(refine Hq rfl ?_;refine CW (Ad rfl) rfl rfl rfl ?_;(repeat ((first | refine ⟨_,Ck (ah rfl),?_⟩ | refine ⟨_,Po rfl,?_⟩);refine ⟨_,rfl,?_⟩));refine ⟨_,rfl,?_⟩;refine ⟨_,rfl,?_⟩);(refine Xq (Cl (ah rfl) (Ad rfl) (Ad rfl) rfl rfl rfl rfl rfl) ?_);refine ⟨_,rfl,?_⟩
     (refine Ap ?_);refine Wa<|Y0 ?_
     refine Dr [[],[(57,0)],[],[(59,2)],[(58,1)]] [[],[0],[],[2],[0,1]] ?_
     refine Xq Ah ?_;refine Xq EE ?_;refine Xq Ah ?_;refine Xq EE ?_;refine Xq KJ ?_;refine ⟨_,rfl,?_⟩
     refine Wa<|AWl.nil<|AE<|AE ?_
     refine ALoop.next _ ?_ ⟨P',Q',R++[⟨s.c+f t.c,s.m⟩],?_,hP1,hQ1,?_,rfl,rfl⟩ ?_
     .simp only [List.length_cons];omega
     .rw [Pt hc,if_neg hz] at heq
      rw [<-heq];simp
     .simp only [List.length_append,List.length_cons,List.length_nil];omega
     .exact AZ (by exact Yd<|Yd<|Yd<|FrLe.cons rfl (AVle.own rfl)<|FrLe.nil) (by exact HpLe.cons (CI (Dd GW R ⟨s.c+f t.c,s.m⟩))<|HpLe.nil)
   .have hc':DQ s.m t.m=1:=by rw [<-FQ]; exact hc
    simp only [hc']
    refine Y0<|AWp.block<|Y1 ?_;refine Wq AL ?_;refine Wa<|Y0<|Ct<|Y1<|Wm<|Wm ?_;refine Wq Dl ?_;refine Wq AQ ?_;refine Wq (Cl (ao rfl) (Ad rfl) (Ad rfl) rfl rfl rfl rfl rfl) ?_;(refine Ap ?_);refine Wa<|Y0<|AWp.region<|Wm ?_;refine Wq EE ?_;refine Wa<|AWl.nil<|AE<|AE ?_
    refine ALoop.next _ ?_ ⟨P',t::Q',R++[s],?_,hP1,hQ',?_,rfl,rfl⟩ ?_
    .simp only [List.length_cons];omega
    .rw [Tr hc] at heq
     rw [<-heq];simp
    .simp only [List.length_cons,List.length_append,List.length_nil];omega
    .exact AZ (by exact Yd<|Yd<|Yd<|FrLe.cons rfl (AVle.own rfl)<|FrLe.nil) (by exact HpLe.cons (CI (Dd GW R s))<|HpLe.nil)
  .have hmn:EX f P' Q'=P'++Q'.map (fT f):=Mg (by first | exact .inl (List.eq_nil_of_length_eq_zero (by omega)) | exact .inr (List.eq_nil_of_length_eq_zero (by omega)))
   refine Ae<|Y1<|Wm ?_;refine Wq Bb ?_;refine Wq AA ?_;refine Wm ?_;refine Ws ?_;refine Ws ?_;refine Ws ?_;refine Wq Ba ?_;refine Y0<|Cf<|BT<|BC<|BL<|BD<|Yn<|Y1<|Wm<|Wm ?_;(refine Ap ?_);refine Wa<|Y0<|Ae<|Y1<|Wm ?_;refine Wq Bb ?_;refine Wm<|Y0<|AWp.block ?_
   refine CA (λm σ=>∃k,k<=Q'.length/\m=Q'.length-k/\σ=⟨[(2,.d (ex (.func (.func fid) #[] #[]))),(7,.own 0),(92,.d (Bw Q')),(93,.d (ex (.int .i64 (Q'.length:Nat)))),(94,.d (ex (.int .i64 (k:Nat))))],[.row 33 12 ((R++P'++(Q'.take k).map (fT f)).map GW)]⟩) ?le ⟨0,by omega,rfl,rfl⟩ ?round
   case le=>exact AZ (by repeat (first | exact FrLe.nil | refine Yd ?_ | refine FrLe.cons rfl (AVle.own rfl) ?_)) (HpLe.cons (CI (by simp)) HpLe.nil)
   case round=>
    rintro m _ ⟨k,hk,rfl,rfl⟩
    by_cases hlt:k<Q'.length
    .have ht:=hQ' _ (Dc hlt)
     have htk:=Fd hlt
     apply Y1;refine Wq AL ?_;refine Y0<|Ae<|Ct<|Ys<|Ae<|AWp.block<|Y1 ?_;refine Wq AD ?_;refine Wq AQ ?_;refine Al ?_;refine Sf ?_;apply Y0
     refine Dr [[],[],[],[(100,2)],[(99,1),(101,3)],[],[(103,5)],[(102,4),(104,6)],[(105,7)]] [[],[],[],[2],[1,2,3],[],[5],[1,2,3,4,5,6],[1,2,3,4,5,6,7]] ?_
     refine Xq Ah ?_;refine Xq Ah ?_;refine Xq AB ?_;refine Xq AO ?_;refine Xq (Aq (hf (AM Q' k).c ht)) ?_;refine Xq AB ?_;refine Xq AO ?_;(refine Hq rfl ?_;refine CW (Ad rfl) rfl rfl rfl ?_;(repeat ((first | refine ⟨_,Ck (ah rfl),?_⟩ | refine ⟨_,Po rfl,?_⟩);refine ⟨_,rfl,?_⟩));refine ⟨_,rfl,?_⟩;refine ⟨_,rfl,?_⟩);(refine Xq (Cl (ah rfl) (Ad rfl) (Ad rfl) rfl rfl rfl rfl rfl) ?_);refine ⟨_,rfl,?_⟩
     (refine Ap ?_);refine Wa<|AWl.nil<|AE<|Yn<|AWp.region ?_;refine Wq Cq ?_;refine Wm<|AWl.nil ?_
     refine ALoop.next (Q'.length-(k+1)) (by omega) ⟨k+1,by omega,rfl,rfl⟩ ?_
     exact AZ (by exact Yd<|FrLe.cons rfl (AVle.own rfl)<|Yd<|Yd<|Yd<|FrLe.nil) (by (refine HpLe.cons (CI ((Dd GW _ (fT f (AM Q' k))).trans (by rw [<-htk];simp))) ?_);exact HpLe.nil)
    .obtain rfl:k=Q'.length:=by omega
     apply Y1;refine Wq AA ?_;refine Y0<|Ae<|Cf<|BT<|BC<|BL<|BD<|Yn<|Y1<|Wm<|Wa<|Y0<|Ar ?_
     refine BG (Rets.one rfl rfl (BK ?_))
     rw [List.take_length,List.append_assoc,<-hmn,heq]
     rfl
  .have hmn:EX f P' Q'=P'++Q'.map (fT f):=Mg (by first | exact .inl (List.eq_nil_of_length_eq_zero (by omega)) | exact .inr (List.eq_nil_of_length_eq_zero (by omega)))
   refine Ae<|Y1<|Wm ?_;refine Wq Bb ?_;refine Wq AL ?_;refine Wm ?_;refine Wg Ah ?_;refine Wg Bb ?_;refine Wg AA ?_;refine Wq Bv ?_;refine Y0<|Cf<|BT<|BC<|BL<|BD<|Yn<|Y1<|Wm<|Wm ?_;(refine Ap ?_);refine Wa<|Y0<|Ae<|Y1<|Wm ?_;refine Wq Bb ?_;refine Wm<|Y0<|AWp.block ?_
   refine CA (λm σ=>∃k,k<=Q'.length/\m=Q'.length-k/\σ=⟨[(2,.d (ex (.func (.func fid) #[] #[]))),(7,.own 0),(92,.d (Bw Q')),(93,.d (ex (.int .i64 (Q'.length:Nat)))),(94,.d (ex (.int .i64 (k:Nat))))],[.row 33 12 ((R++P'++(Q'.take k).map (fT f)).map GW)]⟩) ?le ⟨0,by omega,rfl,rfl⟩ ?round
   case le=>exact AZ (by repeat (first | exact FrLe.nil | refine Yd ?_ | refine FrLe.cons rfl (AVle.own rfl) ?_)) (HpLe.cons (CI (by simp)) HpLe.nil)
   case round=>
    rintro m _ ⟨k,hk,rfl,rfl⟩
    by_cases hlt:k<Q'.length
    .have ht:=hQ' _ (Dc hlt)
     have htk:=Fd hlt
     apply Y1;refine Wq AL ?_;refine Y0<|Ae<|Ct<|Ys<|Ae<|AWp.block<|Y1 ?_;refine Wq AD ?_;refine Wq AQ ?_;refine Al ?_;refine Sf ?_;apply Y0
     refine Dr [[],[],[],[(100,2)],[(99,1),(101,3)],[],[(103,5)],[(102,4),(104,6)],[(105,7)]] [[],[],[],[2],[1,2,3],[],[5],[1,2,3,4,5,6],[1,2,3,4,5,6,7]] ?_
     refine Xq Ah ?_;refine Xq Ah ?_;refine Xq AB ?_;refine Xq AO ?_;refine Xq (Aq (hf (AM Q' k).c ht)) ?_;refine Xq AB ?_;refine Xq AO ?_;(refine Hq rfl ?_;refine CW (Ad rfl) rfl rfl rfl ?_;(repeat ((first | refine ⟨_,Ck (ah rfl),?_⟩ | refine ⟨_,Po rfl,?_⟩);refine ⟨_,rfl,?_⟩));refine ⟨_,rfl,?_⟩;refine ⟨_,rfl,?_⟩);(refine Xq (Cl (ah rfl) (Ad rfl) (Ad rfl) rfl rfl rfl rfl rfl) ?_);refine ⟨_,rfl,?_⟩
     (refine Ap ?_);refine Wa<|AWl.nil<|AE<|Yn<|AWp.region ?_;refine Wq Cq ?_;refine Wm<|AWl.nil ?_
     refine ALoop.next (Q'.length-(k+1)) (by omega) ⟨k+1,by omega,rfl,rfl⟩ ?_
     exact AZ (by exact Yd<|FrLe.cons rfl (AVle.own rfl)<|Yd<|Yd<|Yd<|FrLe.nil) (by (refine HpLe.cons (CI ((Dd GW _ (fT f (AM Q' k))).trans (by rw [<-htk];simp))) ?_);exact HpLe.nil)
    .obtain rfl:k=Q'.length:=by omega
     apply Y1;refine Wq AA ?_;refine Y0<|Ae<|Cf<|BT<|BC<|BL<|BD<|Yn<|Y1<|Wm<|Wa<|Y0<|Ar ?_
     refine BG (Rets.one rfl rfl (BK ?_))
     rw [List.take_length,List.append_assoc,<-hmn,heq]
     rfl
theorem SO(q:Rat):Abs Tryz.prog 41 [BX (CL q)] (BX (CL q)):=by
 refine Ab Tryz.func41 λs0=>?_
 rw [Tryz.ntmps41]
 apply Y1;refine Bx ?_;refine Al ?_;refine Y0<|Y1 ?_;refine Wq AO ?_;refine Sf ?_;refine Y0<|Ar ?_
 exact BG (Rets.of1 (ResV.cell rfl rfl (Ad rfl) rfl rfl rfl) (D.le.refl _))
theorem SH(P Q:List Tm)(N M:Nat)(hP:PSz P N)(hQ:PSz Q M)(hNM:N+M+1<=4398046511104)(hn:P.length+Q.length<=100000):Abs Tryz.prog 15 [Bw P,Bw Q] (Bw (Dq P Q)):=by
 have he:EX (λq=>q) P Q=Dq P Q:=by
  unfold EX
  have:Q.map (fT λq=>q)=Q:=List.map_id Q
  rw [this]
 refine Ab Tryz.func15 λs0=>?_
 rw [Tryz.ntmps15]
 refine Y1<|Wa<|Y0<|Y1<|Wm<|Wm ?_;refine Wq (Aq (Kq P Q 41 (λq=>q) N M hP hQ hNM (λ_ h=>h) hn (λq _=>SO q))) ?_;refine Wa<|Y0<|Ar ?_
 exact BG (Rets.of1 (ResV.tmp rfl rfl) (EH he))
theorem SD(P Q:List Tm)(N M:Nat)(hP:PSz P N)(hQ:PSz Q M)(hNM:N+M+1<=4398046511104)(hn:P.length+Q.length<=100000):Abs Tryz.prog 16 [Bw P,Bw Q] (Bw (EX (λq=>-q) P Q)):=by
 refine Ab Tryz.func16 λs0=>?_
 rw [Tryz.ntmps16]
 refine Y1<|Wa<|Y0<|Y1<|Wm<|Wm ?_;refine Wq (Aq (Kq P Q 42 (λq=>-q) N M hP hQ hNM (λq h=>h.neg) hn (λq h=>TV q M h (by omega)))) ?_;refine Wa<|Y0<|Ar ?_
 exact Yf
def Dm(c:Rat):List Tm:=if c=0 then [] else [⟨c,λ_=>0⟩]
theorem OM(c:Rat):Abs Tryz.prog 8 [BX (CL c)] (Bw (Dm c)):=by
 refine Ab Tryz.func8 λs0=>?_
 rw [Tryz.ntmps8]
 by_cases hz:c=0
 .have hs:=Co.2 hz
  apply Y1;refine Bx ?_;refine Wa<|Y0<|Ae<|Y1 ?_;refine Wq AO ?_;refine Wq (Aq (FZ c)) ?_;refine Wq AL ?_;refine Y0<|Ct<|Y1<|Wa<|Y0<|Ar<|Az ?_
  exact BG (Rets.of1 (ResV.tmp rfl rfl) (D.le.trans HV (EH (by rw [Dm,if_pos hz]))))
 .have hs:c.num.sign≠0:=λe=>hz (Co.1 e)
  apply Y1;refine Bx ?_;refine Wa<|Y0<|Ae<|Y1 ?_;refine Wq AO ?_;refine Wq (Aq (FZ c)) ?_;refine Wq AA ?_;refine Y0<|Cf<|Ys<|Y1 ?_;refine Wq AO ?_;(refine By rfl rfl ?_;(refine CW (Ad rfl) rfl rfl rfl ?_;(repeat ((first | refine ⟨_,Ck (ao rfl),?_⟩ | refine ⟨_,Po rfl,?_⟩);refine ⟨_,rfl,?_⟩));refine ⟨_,rfl,?_⟩));refine Wq (Cl (ao rfl) (Ad rfl) (Ad rfl) rfl rfl rfl rfl rfl) ?_;refine Wa<|Y0<|Ar ?_
  exact BG (Rets.of1 (ResV.tmp rfl rfl) (BK (by rw [Dm,if_neg hz];rfl)))
def Ex(i:Nat):Nat->Int:=Nw (λ_=>0) i 1
theorem Ne(i:Nat)(hi:i<8):Abs Tryz.prog 7 [ex (.int .i64 (i:Nat))] (Fm [Bw [⟨1,Ex i⟩],ex (.int .i64 0)]):=by
 refine Ab Tryz.func7 λs0=>?_
 rw [Tryz.ntmps7]
 refine Y1<|Wa<|Wa<|Y0<|Ae<|Y1<|Wm ?_;refine Wq AA ?_;refine Wm ?_;refine Wg Ah ?_;refine Wg AA ?_;refine Wq Ba ?_;refine Y0<|Cf<|Ys<|Y1 ?_;refine Al ?_;refine Y0<|Y1<|Wm ?_;refine Wq Ee ?_
 refine Nm 0 (BW λ_=>0) rfl rfl rfl ?_
 (refine JM (ao rfl) (ao rfl) rfl (Ad rfl) (by first | exact Ht rfl | exact LB | exact LC) (SetAt.mon (by first | omega | (simp;omega))) rfl ?_);refine Y0<|Ae ?_
 refine Dr [[],[],[(13,0),(14,1)],[(15,2)]] [[],[],[0,1],[0,1,2]] ?_
 refine Xq (Aq (QH 1 (by omega) (by omega))) ?_;refine Xq AO ?_;(refine Hq rfl ?_;refine CW (Ad rfl) rfl rfl rfl ?_;(repeat ((first | refine ⟨_,Ck (ah rfl),?_⟩ | refine ⟨_,Po rfl,?_⟩);refine ⟨_,rfl,?_⟩));refine ⟨_,rfl,?_⟩;refine ⟨_,rfl,?_⟩);(refine Xq (Cl (ah rfl) (Ad rfl) (Ad rfl) rfl rfl rfl rfl rfl) ?_);refine ⟨_,rfl,?_⟩
 refine Wa<|Wa<|Y0<|Ar ?_
 exact BG (Ea (ResV.tmp rfl rfl) (ResV.tmp rfl rfl) (DA (D.le.refl _) (D.le.refl _)))
def zeroT:List D:=[ex (.bool false),ex (.slice none 0 0),ex (.bool false),ex (.slice none 0 0)]++BW λ_=>0
theorem OL(R:List (Nat->Int)):Abs Tryz.prog 17 [Bw [],Ma R] (Fm [BX zeroT,ex (.bool false)]):=by
 refine Ab Tryz.func17 λs0=>?_
 rw [Tryz.ntmps17]
 apply Y1;refine Al ?_;refine Wa<|Y0<|Ae<|Y1<|Wm ?_;refine Wq Bb ?_;refine Wq AL ?_;refine Y0<|Ct<|Y1 ?_;(refine By rfl rfl ?_;(refine CW (Ad rfl) rfl rfl rfl ?_;(repeat ((first | refine ⟨_,Ck (ao rfl),?_⟩ | refine ⟨_,Po rfl,?_⟩);refine ⟨_,rfl,?_⟩));refine ⟨_,rfl,?_⟩));refine Sf ?_;refine Wa<|Y0<|Ar<|Az ?_
 exact BG (Ea (ResV.cell rfl rfl (Ad rfl) rfl rfl rfl) (ResV.tmp rfl rfl) (DA (D.le.refl _) (D.le.refl _)))
theorem NU(R:List (Nat->Int))(s:Tm){P:List Tm}{k:Nat}(h:k<P.length):Fj R s (P.take (k+1))=SU R (Fj R s (P.take k)) (AM P k):=HI _ _ h
theorem Kr(R:List (Nat->Int)):∀(P:List Tm) (s:Tm),Fj R s P∈s::P
 | [],s=>by simp [Fj]
 | t::P,s=>by
  have h:=Kr R P (SU R s t)
  have e:Fj R s (t::P)=Fj R (SU R s t) P:=rfl
  rw [e]
  rcases List.mem_cons.1 h with h1 | h1
  .rw [h1]
   unfold SU
   split<;>simp
  .simp [h1]
theorem Jd(R:List (Nat->Int))(s:Tm)(P:List Tm)(k:Nat):Fj R s (P.take k)∈s::P:=by
 rcases List.mem_cons.1 (Kr R (P.take k) s) with h | h
 .rw [h];simp
 .exact List.mem_cons_of_mem _ (List.mem_of_mem_take h)
theorem Rh(s:Tm)(P:List Tm)(R:List (Nat->Int))(hR:∀r∈R,In8 r (-1000) 1000)(hP:PIn (s::P) (-1000000) 1000000)(hn:P.length<=1000000):Abs Tryz.prog 17 [Bw (s::P),Ma R] (Fm [BX (GW (Fj R s P)),ex (.bool true)]):=by
 refine Ab Tryz.func17 λs0=>?_
 rw [Tryz.ntmps17]
 apply Y1;refine Al ?_;refine Wa<|Y0<|Ae<|Y1<|Wm ?_;refine Wq Bb ?_;refine Wq AA ?_;refine Y0<|Cf<|Ys<|Y1<|Wm ?_;refine Wq Dl ?_;refine Wq AQ ?_;refine Al ?_;refine Sf ?_;refine Y0<|Ae<|Y1<|Wm ?_;refine Wq EE ?_;refine Wq Bb ?_;refine Wm<|Y0<|AWp.block ?_
 refine CA (λmz σ=>∃k,k<=P.length/\mz=P.length-k/\σ=⟨[(1,.d (Ma R)),(4,.ptr 0 0),(6,.ptr 1 0),(17,.d (Bw P)),(18,.d (ex (.int .i64 (P.length:Nat)))),(19,.d (ex (.int .i64 (k:Nat))))],[.var 33 (zeroT.map .d),.var 33 ((GW (Fj R s (P.take k))).map .d)]⟩) ?le ⟨0,by omega,rfl,rfl⟩ ?round
 case le=>exact AZ (by exact Yd<|Yp<|Yp<|Yd<|Yd<|Yd<|FrLe.nil) (by exact Yv<|Yv<|HpLe.nil)
 case round=>
  rintro mz _ ⟨k,hk,rfl,rfl⟩
  by_cases hlt:k<P.length
  .have hin:=hP _ (List.mem_cons_of_mem _ (Dc hlt))
   have hin':=hP _ (Jd R s P k)
   have hst:=NU R s hlt
   by_cases hc:0<DB R (AM P k).m (Fj R s (P.take k)).m
   .rw [SU,if_pos hc] at hst
    apply Y1;refine Wq AL ?_;refine Y0<|Ae<|Ct<|Ys<|Ae<|AWp.block<|Y1 ?_;refine Wq AD ?_;refine Wq AQ ?_;refine Al ?_;refine Sf ?_;refine Y0<|Y1<|Wm ?_;refine Wq AB ?_;refine Wq AO ?_;refine Wq AB ?_;refine Wq AO ?_;refine Wq (Aq (Mf R (AM P k).m (Fj R s (P.take k)).m hR hin hin')) ?_;refine Wq AL ?_;refine Y0<|Ct<|AWp.region ?_;refine Wq AO ?_;refine Sf ?_;refine AWl.nil<|AE<|Yn<|AWp.region ?_;refine Wq Cq ?_;refine Wm<|AWl.nil ?_
    refine ALoop.next (P.length-(k+1)) (by omega) ⟨k+1,by omega,rfl,rfl⟩ ?_
    exact AZ (by exact Yd<|Yp<|Yp<|Yd<|Yd<|Yd<|FrLe.nil) (by apply Yv;(refine HpLe.cons (Gy (by rw [hst]<;>rfl)) ?_);exact HpLe.nil)
   .rw [SU,if_neg hc] at hst
    apply Y1;refine Wq AL ?_;refine Y0<|Ae<|Ct<|Ys<|Ae<|AWp.block<|Y1 ?_;refine Wq AD ?_;refine Wq AQ ?_;refine Al ?_;refine Sf ?_;refine Y0<|Y1<|Wm ?_;refine Wq AB ?_;refine Wq AO ?_;refine Wq AB ?_;refine Wq AO ?_;refine Wq (Aq (Mf R (AM P k).m (Fj R s (P.take k)).m hR hin hin')) ?_;refine Wq AA ?_;refine Y0<|Cf<|Bg<|AE<|Yn<|AWp.region ?_;refine Wq Cq ?_;refine Wm<|AWl.nil ?_
    refine ALoop.next (P.length-(k+1)) (by omega) ⟨k+1,by omega,rfl,rfl⟩ ?_
    exact AZ (by exact Yd<|Yp<|Yp<|Yd<|Yd<|Yd<|FrLe.nil) (by apply Yv;(refine HpLe.cons (Gy (by rw [hst]<;>rfl)) ?_);exact HpLe.nil)
  .obtain rfl:k=P.length:=by omega
   apply Y1;refine Wq AA ?_;refine Y0<|Ae<|Cf<|BT<|BC<|BL<|BD<|Yn<|Y1 ?_;refine Wq AO ?_;refine Sf ?_;refine Wa<|Y0<|Ar ?_
   exact BG (Ea (ResV.cell rfl rfl (Ad rfl) rfl rfl rfl) (ResV.tmp rfl rfl) (DA (BK (by rw [List.take_length];rfl)) (D.le.refl _)))
def Dp(b:Bool)(l:List Nat):Bool:=if l.length=0 then !b else (((l.getD (l.length-1) 0:Nat):Int) != 0)
theorem Jf(b:Bool)(l:List Nat)(hn:l.length<=1000000000):Abs Tryz.prog 48 [BX [ex (.bool b),wD l]] (ex (.bool (Dp b l))):=by
 refine Ab Tryz.func48 λs0=>?_
 rw [Tryz.ntmps48]
 apply Y1;refine Bx ?_;refine Wa<|Y0<|Y1 ?_;refine Wq AB ?_;refine Wq Cr ?_;refine Wq TO ?_;refine Wa<|Y0<|Ae<|Y1<|Wm ?_;refine Wq Ov ?_;apply Y0
 by_cases h0:l.length=0
 .refine Gi (ao rfl) (decide_eq_true (by omega)) ?_; refine Ae<|AWp.region ?_; refine Wq AB ?_; refine Wq Cr ?_; refine Wq Cn ?_; refine Wa<|AWl.nil<|Yn<|Ar<|Az ?_
  exact BG (Rets.of1 (ResV.tmp rfl rfl) (BK (by rw [Dp,if_pos h0])))
 .refine Gj (ao rfl) (decide_eq_false (by omega)) ?_; refine Bg<|Yn<|Ae<|AWp.region ?_; refine Wq AB ?_; refine Wq Cr ?_; refine Wm ?_; refine Wq Lp ?_; refine Wq QY ?_; refine Wq Gv ?_; refine Wq Ov ?_; refine Wa<|AWl.nil<|Yn<|Ar ?_
  exact BG (Rets.of1 (ResV.tmp rfl rfl) (BK (by rw [Dp,if_neg h0])))
theorem IG:∀{l:List Nat},l≠[]->l.getD (l.length-1) 0≠0->Cv l=l
 | [],h,_=>absurd rfl h
 | [x],_,h=>by
  have h:x≠0:=h
  simp [Cv,h]
 | x::y::l,_,h=>by
  have h':(y::l).getD ((y::l).length-1) 0≠0:=by
   have e:(x::y::l).getD ((x::y::l).length-1) 0=(y::l).getD ((y::l).length-1) 0:=by simp
   rwa [e] at h
  have ih:=IG (l:=y::l) (by simp) h'
  rw [Cv,ih]
theorem Es{b:Bool}{l:List Nat}(hs:AI l)(h:Dp b l=true):∃z:Int,b=decide (z<0)/\l=Af z.natAbs:=by
 unfold Dp at h
 split at h
 .rename_i h0
  obtain rfl:=List.eq_nil_of_length_eq_zero h0
  exact ⟨0,by simpa using h,by simp [AU]⟩
 .rename_i h0
  have h1:l≠[]:=λe=>h0 (by rw [e];rfl)
  have h2:l.getD (l.length-1) 0≠0:=λe=>by rw [e] at h;simp at h
  have h3:l=Af (val l):=by rw [<-Aw hs,IG h1 h2]
  have h4:val l≠0:=λe=>by rw [e,AU] at h3;exact h1 h3
  cases b with
  | true=>exact ⟨-(val l:Int),by simp;omega,by simpa using h3⟩
  | false=>exact ⟨(val l:Int),by simp,by simpa using h3⟩
theorem Kv(z:Int):Dp (decide (z<0)) (Af z.natAbs)=true:=by
 unfold Dp
 split
 .rename_i h
  have:=As.1 h
  have:z=0:=by omega
  subst this
  rfl
 .rename_i h
  have hd:(Af z.natAbs).getD ((Af z.natAbs).length-1) 0≠0:=by
   have key:∀n,n≠0->(Af n).getD ((Af n).length-1) 0≠0:=by
    intro n
    induction n using Nat.strongRecOn with
    | _ n ih=>
     intro hn
     rw [CV hn]
     by_cases h0:n/BB=0
     .rw [h0,AU]
      have:n%BB=n:=Nat.mod_eq_of_lt (by have:=Nat.div_eq_zero_iff.1 h0;rcases this with h | h;exact absurd h (by decide);exact h)
      simpa [this] using hn
     .have:=ih (n/BB) (Nat.div_lt_self (Nat.pos_of_ne_zero hn) (by decide)) h0
      have hne:(Af (n/BB)).length≠0:=λe=>h0 (As.1 e)
      obtain ⟨m,hm⟩:∃m,(Af (n/BB)).length=m+1:=⟨(Af (n/BB)).length-1,by omega⟩
      rw [hm] at this
      simp only [List.length_cons,hm,Nat.add_sub_cancel,List.getD_cons_succ] at this ⊢
      exact this
   exact key _ λe=>h (As.2 e)
  simp only [bne_iff_ne,ne_eq]
  omega
def Lz(b:Bool)(l:List Nat)(b':Bool)(l':List Nat):Prop:=∃q:Rat,b=decide (q.num<0)/\l=Af q.num.natAbs/\b'=decide ((q.den:Int)<0)/\l'=Af (q.den:Int).natAbs
theorem Pv{x y:Int}(h:decide (x<0)=decide (y<0))(h':Af x.natAbs=Af y.natAbs):x=y:=by
 have h1:x.natAbs=y.natAbs:=by rw [<-Ag x.natAbs,h',Ag]
 have h2:(x<0)↔(y<0):=by simpa using h
 omega
theorem ER(x y:Int):Lz (decide (x<0)) (Af x.natAbs) (decide (y<0)) (Af y.natAbs)↔0<y/\Nat.gcd x.natAbs y.natAbs=1:=by
 constructor
 .rintro ⟨q,h1,h2,h3,h4⟩
  have e1:=Pv h1 h2
  have e2:=Pv h3 h4
  subst e1;subst e2
  exact ⟨by have:=q.den_pos;omega,q.reduced⟩
 .rintro ⟨h1,h2⟩
  refine ⟨⟨x,y.natAbs,by omega,h2⟩,rfl,rfl,?_,?_⟩
  .show decide (y<0)=decide (((y.natAbs:Nat):Int)<0)
   rw [decide_eq_false (show ¬y<0 by omega),decide_eq_false (by omega)]
  .show Af y.natAbs=Af ((y.natAbs:Nat):Int).natAbs
   rfl
theorem HT{b:Bool}{l:List Nat}{b':Bool}{l':List Nat}(h:Lz b l b' l'):Dp b l=true/\Dp b' l'=true:=by
 obtain ⟨q,rfl,rfl,rfl,rfl⟩:=h
 exact ⟨Kv _,Kv _⟩
def Up(b:Bool)(l:List Nat)(b':Bool)(l':List Nat):List D:=[ex (.bool b),wD l,ex (.bool b'),wD l']
open Classical in
theorem NF(b:Bool)(l:List Nat)(b':Bool)(l':List Nat)(hs:AI l)(hs':AI l')(hn:l.length<=1000000000)(hn':l'.length<=1000000000):Abs Tryz.prog 23 [BX (Up b l b' l')] (ex (.bool (decide (Lz b l b' l')))):=by
 have c1:=Jf b l hn
 have c2:=Jf b' l' hn'
 cases h1:Dp b l with
 | false=>
  have hq:¬Lz b l b' l':=λh=>by rw [(HT h).1] at h1;cases h1
  rw [h1] at c1
  rw [decide_eq_false hq]
  refine Ab Tryz.func23 λs0=>?_
  rw [Tryz.ntmps23]
  apply Y1;refine Bx ?_;refine Wa<|Y0<|Ae<|Y1 ?_;refine Wq AB ?_;refine Wq AO ?_;refine Wq (Aq (c1)) ?_;refine Wq Cn ?_;refine Wm ?_;refine Ws ?_;refine Ws ?_;refine Ws ?_;refine Ws ?_;refine Wq Bv ?_;refine Wm ?_;refine Ws ?_;refine Ws ?_;refine Ws ?_;refine Ws ?_;refine Wq Bv ?_;refine Y0<|Ct<|Y1<|Wa<|Y0<|Ar<|Az ?_
  exact Yf
 | true=>
  rw [h1] at c1
  cases h2:Dp b' l' with
  | false=>
   have hq:¬Lz b l b' l':=λh=>by rw [(HT h).2] at h2;cases h2
   rw [h2] at c2
   rw [decide_eq_false hq]
   refine Ab Tryz.func23 λs0=>?_
   rw [Tryz.ntmps23]
   apply Y1;refine Bx ?_;refine Wa<|Y0<|Ae<|Y1 ?_;refine Wq AB ?_;refine Wq AO ?_;refine Wq (Aq (c1)) ?_;refine Wq Cn ?_;refine Wm ?_;refine Wg AB ?_;refine Wg AO ?_;refine Wg (Aq (c2)) ?_;refine Wg Cn ?_;refine Wq Ba ?_;refine Wm ?_;refine Ws ?_;refine Ws ?_;refine Ws ?_;refine Ws ?_;refine Wq Bv ?_;refine Y0<|Ct<|Y1<|Wa<|Y0<|Ar<|Az ?_
   exact Yf
  | true=>
   rw [h2] at c2
   obtain ⟨x,rfl,rfl⟩:=Es hs h1
   obtain ⟨y,rfl,rfl⟩:=Es hs' h2
   by_cases hy:0<y
   .have hsg:y.sign=1:=Int.sign_eq_one_of_pos hy
    have c3:=Ks y
    by_cases hy1:y=1
    .rw [decide_eq_true hy1] at c3
     rw [decide_eq_true ((ER x y).2 ⟨hy,by subst hy1;exact Nat.gcd_one_right _⟩)]
     refine Ab Tryz.func23 λs0=>?_
     rw [Tryz.ntmps23]
     apply Y1;refine Bx ?_;refine Wa<|Y0<|Ae<|Y1 ?_;refine Wq AB ?_;refine Wq AO ?_;refine Wq (Aq (c1)) ?_;refine Wq Cn ?_;refine Wm ?_;refine Wg AB ?_;refine Wg AO ?_;refine Wg (Aq (c2)) ?_;refine Wg Cn ?_;refine Wq Ba ?_;refine Wm ?_;refine Wg AB ?_;refine Wg AO ?_;refine Wg (Aq (KQ y)) ?_;refine Wg AA ?_;refine Wq Ba ?_;refine Y0<|Cf<|Ys<|Y1 ?_;refine Wq AB ?_;refine Wq AO ?_;refine Wq (Aq (c3)) ?_;refine Wm ?_;refine Ws ?_;refine Ws ?_;refine Ws ?_;refine Ws ?_;refine Ws ?_;refine Ws ?_;refine Wq Bv ?_;refine Wa<|Y0<|Ar ?_
     exact Yf
    .rw [decide_eq_false hy1] at c3
     have hg:decide (Lz (decide (x<0)) (Af x.natAbs) (decide (y<0)) (Af y.natAbs))=decide (((Nat.gcd x.natAbs y.natAbs:Nat):Int)=1):=by
      refine decide_eq_decide.2 ((ER x y).trans ⟨λh=>by omega,λh=>⟨hy,by omega⟩⟩)
     rw [hg]
     refine Ab Tryz.func23 λs0=>?_
     rw [Tryz.ntmps23]
     apply Y1;refine Bx ?_;refine Wa<|Y0<|Ae<|Y1 ?_;refine Wq AB ?_;refine Wq AO ?_;refine Wq (Aq (c1)) ?_;refine Wq Cn ?_;refine Wm ?_;refine Wg AB ?_;refine Wg AO ?_;refine Wg (Aq (c2)) ?_;refine Wg Cn ?_;refine Wq Ba ?_;refine Wm ?_;refine Wg AB ?_;refine Wg AO ?_;refine Wg (Aq (KQ y)) ?_;refine Wg AA ?_;refine Wq Ba ?_;refine Y0<|Cf<|Ys<|Y1 ?_;refine Wq AB ?_;refine Wq AO ?_;refine Wq (Aq (c3)) ?_;refine Wm ?_;refine Wg AB ?_;refine Wg AO ?_;refine Wg AB ?_;refine Wg AO ?_;refine Wg (Aq (Tw x y (by omega) (by omega))) ?_;refine Wg (Aq (Ks (Nat.gcd x.natAbs y.natAbs:Nat))) ?_;refine Wq Ba ?_;refine Wa<|Y0<|Ar ?_
     exact Yf
   .have hsg:y.sign<=0:=Int.sign_nonpos_iff.2 (by omega)
    rw [decide_eq_false λh=>hy ((ER x y).1 h).1]
    refine Ab Tryz.func23 λs0=>?_
    rw [Tryz.ntmps23]
    apply Y1;refine Bx ?_;refine Wa<|Y0<|Ae<|Y1 ?_;refine Wq AB ?_;refine Wq AO ?_;refine Wq (Aq (c1)) ?_;refine Wq Cn ?_;refine Wm ?_;refine Wg AB ?_;refine Wg AO ?_;refine Wg (Aq (c2)) ?_;refine Wg Cn ?_;refine Wq Ba ?_;refine Wm ?_;refine Wg AB ?_;refine Wg AO ?_;refine Wg (Aq (KQ y)) ?_;refine Wg AL ?_;refine Wq Ba ?_;refine Y0<|Ct<|Y1<|Wa<|Y0<|Ar<|Az ?_
    exact Yf
def Vf(b:Bool)(m:Nat)(b':Bool)(m':Nat):Int:=match b,b' with
 | true,true=>CT m' m
 | true,false=>-1
 | false,true=>1
 | false,false=>CT m m'
theorem KA(x y:Nat):CT x y=((x:Int)-y).sign:=by
 unfold CT
 rcases Nat.lt_trichotomy x y with h | h | h
 .rw [if_pos h,Int.sign_eq_neg_one_of_neg (by omega)]
 .subst h;simp
 .rw [if_neg (by omega),if_pos h,Int.sign_eq_one_of_pos (by omega)]
theorem QC(x y:Int):Vf (decide (x<0)) x.natAbs (decide (y<0)) y.natAbs=(x-y).sign:=by
 by_cases hx:x<0<;>by_cases hy:y<0
 .rw [decide_eq_true hx,decide_eq_true hy]
  show CT _ _=_
  rw [KA];congr 1;omega
 .rw [decide_eq_true hx,decide_eq_false hy]
  show (-1:Int)=_
  rw [Int.sign_eq_neg_one_of_neg (by omega)]
 .rw [decide_eq_false hx,decide_eq_true hy]
  show (1:Int)=_
  rw [Int.sign_eq_one_of_pos (by omega)]
 .rw [decide_eq_false hx,decide_eq_false hy]
  show CT _ _=_
  rw [KA];congr 1;omega
theorem RD{g:Nat}(h:0<g):(((g:Int)-1).sign==0)=decide (g=1):=by
 by_cases h1:g=1
 .subst h1;rfl
 .rw [decide_eq_false h1,Int.sign_eq_one_of_pos (by omega)];rfl
structure RTm where
 b:Bool
 l:List Nat
 b':Bool
 l':List Nat
 m:Nat->Int
instance:Inhabited RTm:=⟨⟨false,[],false,[],λ_=>0⟩⟩
def Vx(r:RTm):List D:=Up r.b r.l r.b' r.l'++BW r.m
def Vb(L:List RTm):D:=slD 33 12 (L.map Vx)
def Bs(L:List RTm)(k:Nat):RTm:=L.getD k default
def Ul(r:RTm):Prop:=Lz r.b r.l r.b' r.l'/\r.l≠[]/\In8 r.m 0 65535
def CQ(L:List RTm):Prop:=∀k,k<L.length->Ul (Bs L k)/\(0<k->0<DQ (Bs L (k-1)).m (Bs L k).m)
def RF(L:List RTm):Prop:=∀r∈L,AI r.l/\AI r.l'/\r.l.length<=1000000000/\r.l'.length<=1000000000
theorem IV{L:List RTm}{k:Nat}(h:k<L.length):Bs L k∈L:=by
 unfold Bs
 rw [List.getD_eq_getElem?_getD,List.getElem?_eq_getElem h]
 exact List.getElem_mem h
open Classical in
theorem OJ(L:List RTm)(hz:RF L)(hn:L.length<=1000000):Abs Tryz.prog 5 [Vb L] (ex (.bool (decide (CQ L)))):=by
 refine Ab Tryz.func5 λs0=>?_
 rw [Tryz.ntmps5]
 refine Y1<|Wa<|Y0<|Ae<|Y1<|Wm ?_;refine Wq Bb ?_;refine Wm<|Y0<|AWp.block ?_
 refine CA (λmz σ=>∃k,k<=L.length/\mz=L.length-k/\(∀j,j<k->Ul (Bs L j)/\(0<j->0<DQ (Bs L (j-1)).m (Bs L j).m))/\σ=⟨[(0,.d (Vb L)),(5,.d (Vb L)),(6,.d (ex (.int .i64 (L.length:Nat)))),(7,.d (ex (.int .i64 (k:Nat))))],[]⟩) ?le ⟨0,by omega,rfl,λj hj=>absurd hj (Nat.not_lt_zero j),rfl⟩ ?round
 case le=>exact AZ (by exact Yd<|Yd<|Yd<|Yd<|FrLe.nil) (by exact HpLe.nil)
 case round=>
  rintro mz _ ⟨k,hk,rfl,hall,rfl⟩
  by_cases hlt:k<L.length
  .obtain ⟨z1,z2,z3,z4⟩:=hz _ (IV hlt)
   have c1:=NF (Bs L k).b (Bs L k).l (Bs L k).b' (Bs L k).l' z1 z2 z3 z4
   by_cases hq:Lz (Bs L k).b (Bs L k).l (Bs L k).b' (Bs L k).l'
   .rw [decide_eq_true hq] at c1
    obtain ⟨q,q1,q2,q3,q4⟩:=id hq
    have c2:=FZ q
    have hcc:CL q=Up (Bs L k).b (Bs L k).l (Bs L k).b' (Bs L k).l':=by rw [q1,q2,q3,q4];rfl
    rw [hcc] at c2
    by_cases hz0:q=0
    .have hs:=Co.2 hz0
     have hno:¬CQ L:=λh=>(h k hlt).1.2.1 (by rw [q2,hz0];exact AU)
     rw [decide_eq_false hno]
     apply Y1;refine Wq AL ?_;refine Y0<|Ae<|Ct<|Ys<|Ae<|AWp.block<|Y1<|Wm ?_;refine Wq AD ?_;refine Wq AQ ?_;refine Al ?_;refine Wa ?_;refine Sf ?_;refine Y0<|Ae<|Y1 ?_;refine Wq AB ?_;refine Wq AO ?_;refine Wq (Aq (c1)) ?_;refine Wq Cn ?_;refine Wm ?_;refine Wg AB ?_;refine Wg AO ?_;refine Wg (Aq (c2)) ?_;refine Wg AL ?_;refine Wq Ba ?_;refine Wm ?_;refine Ws ?_;refine Ws ?_;refine Ws ?_;refine Ws ?_;refine Wq Bv ?_;refine Y0<|Ct<|Y1<|Wa<|Y0<|Ar<|Az<|Bp<|Az<|Cg<|Bp<|Az ?_
     exact Yf
    .have hs:q.num.sign≠0:=λe=>hz0 (Co.1 e)
     by_cases hm:In8 (Bs L k).m 0 65535
     .have htk:Ul (Bs L k):=⟨hq, λe=>by rw [q2] at e; have:=As.1 (by rw [e]; rfl); exact Iz hz0 (by omega), hm⟩
      rcases Nat.eq_zero_or_pos k with h0 | h0
      .subst h0
       apply Y1;refine Wq AL ?_;refine Y0<|Ae<|Ct<|Ys<|Ae<|AWp.block<|Y1<|Wm ?_;refine Wq AD ?_;refine Wq AQ ?_;refine Al ?_;refine Wa ?_;refine Sf ?_;refine Y0<|Ae<|Y1 ?_;refine Wq AB ?_;refine Wq AO ?_;refine Wq (Aq (c1)) ?_;refine Wq Cn ?_;refine Wm ?_;refine Wg AB ?_;refine Wg AO ?_;refine Wg (Aq (c2)) ?_;refine Wg AA ?_;refine Wq Ba ?_;refine Wm ?_;refine Wg AB ?_;refine Wg AO ?_;refine Wg (Aq (Dy (Bs L 0).m hm)) ?_;refine Wg Cn ?_;refine Wq Ba ?_;refine Y0<|Cf<|Ys<|Ae ?_
       refine Dr [[],[(28,0)],[(29,1)],[],[],[(32,4)],[(31,3),(33,5)],[(34,6)],[(35,7)],[],[(37,9)],[(36,8),(38,10)],[(39,11)],[(30,2),(40,12)]] [[],[0],[0,1],[0,1,2],[0,1,2],[0,1,2,4],[0,1,2,3,4,5],[0,1,2,3,4,5,6],[0,1,2,3,4,5,6,7],[0,1,2],[0,1,2,9],[0,1,2,3,4,5,6,7,8,9,10],[0,1,2,3,4,5,6,7,8,9,10,11],[0,1,2,3,4,5,6,7,8,9,10,11,12]] ?_
       refine Xq Ah ?_;refine Xq AA ?_;refine Xq Ah ?_;refine Xs ?_;refine Xs ?_;refine Xs ?_;refine Xs ?_;refine Xs ?_;refine Xs ?_;refine Xs ?_;refine Xs ?_;refine Xs ?_;refine Xs ?_;refine Xq Ba ?_;refine ⟨_,rfl,?_⟩
       refine Y0<|Cf<|Bg<|AE<|Yn<|AWp.region ?_;refine Wq Cq ?_;refine Wm<|AWl.nil ?_
       refine ALoop.next (L.length-1) (by omega) ⟨1,by omega,rfl,λj hj=>by obtain rfl:j=0:=(by omega);exact ⟨htk,λh=>absurd h (Nat.lt_irrefl _)⟩,rfl⟩ ?_
       exact AZ (by exact Yd<|Yd<|Yd<|Yd<|FrLe.nil) (by exact HpLe.nil)
      .by_cases hc:0<DQ (Bs L (k-1)).m (Bs L k).m
       .apply Y1;refine Wq AL ?_;refine Y0<|Ae<|Ct<|Ys<|Ae<|AWp.block<|Y1<|Wm ?_;refine Wq AD ?_;refine Wq AQ ?_;refine Al ?_;refine Wa ?_;refine Sf ?_;refine Y0<|Ae<|Y1 ?_;refine Wq AB ?_;refine Wq AO ?_;refine Wq (Aq (c1)) ?_;refine Wq Cn ?_;refine Wm ?_;refine Wg AB ?_;refine Wg AO ?_;refine Wg (Aq (c2)) ?_;refine Wg AA ?_;refine Wq Ba ?_;refine Wm ?_;refine Wg AB ?_;refine Wg AO ?_;refine Wg (Aq (Dy (Bs L k).m hm)) ?_;refine Wg Cn ?_;refine Wq Ba ?_;refine Y0<|Cf<|Ys<|Ae ?_
        refine Dr [[],[(28,0)],[(29,1)],[],[],[(32,4)],[(31,3),(33,5)],[(34,6)],[(35,7)],[],[(37,9)],[(36,8),(38,10)],[(39,11)],[(30,2),(40,12)]] [[],[0],[0,1],[0,1,2],[0,1,2],[0,1,2,4],[0,1,2,3,4,5],[0,1,2,3,4,5,6],[0,1,2,3,4,5,6,7],[0,1,2],[0,1,2,9],[0,1,2,3,4,5,6,7,8,9,10],[0,1,2,3,4,5,6,7,8,9,10,11],[0,1,2,3,4,5,6,7,8,9,10,11,12]] ?_
        refine Xq Ah ?_;refine Xq AL ?_;refine Xq Ah ?_;refine Xg Ah ?_;refine Xg Ah ?_;refine Xg Lp ?_;refine Xg AD ?_;refine Xg Bd ?_;refine Xg AQ ?_;refine Xg AB ?_;refine Xg AO ?_;refine Xg (Aq (FO (Bs L (k-1)).m (Bs L k).m)) ?_;refine Xg AA ?_;refine Xq Bv ?_;refine ⟨_,rfl,?_⟩
        refine Y0<|Cf<|Bg<|AE<|Yn<|AWp.region ?_;refine Wq Cq ?_;refine Wm<|AWl.nil ?_
        refine ALoop.next (L.length-(k+1)) (by omega) ⟨k+1,by omega,rfl,λj hj=>?_,rfl⟩ ?_
        .rcases Nat.lt_succ_iff_lt_or_eq.1 hj with h | rfl
         .exact hall j h
         .exact ⟨htk,λ_=>hc⟩
        .exact AZ (by exact Yd<|Yd<|Yd<|Yd<|FrLe.nil) (by exact HpLe.nil)
       .have hno:¬CQ L:=λh=>hc ((h k hlt).2 h0)
        rw [decide_eq_false hno]
        apply Y1;refine Wq AL ?_;refine Y0<|Ae<|Ct<|Ys<|Ae<|AWp.block<|Y1<|Wm ?_;refine Wq AD ?_;refine Wq AQ ?_;refine Al ?_;refine Wa ?_;refine Sf ?_;refine Y0<|Ae<|Y1 ?_;refine Wq AB ?_;refine Wq AO ?_;refine Wq (Aq (c1)) ?_;refine Wq Cn ?_;refine Wm ?_;refine Wg AB ?_;refine Wg AO ?_;refine Wg (Aq (c2)) ?_;refine Wg AA ?_;refine Wq Ba ?_;refine Wm ?_;refine Wg AB ?_;refine Wg AO ?_;refine Wg (Aq (Dy (Bs L k).m hm)) ?_;refine Wg Cn ?_;refine Wq Ba ?_;refine Y0<|Cf<|Ys<|Ae ?_
        refine Dr [[],[(28,0)],[(29,1)],[],[],[(32,4)],[(31,3),(33,5)],[(34,6)],[(35,7)],[],[(37,9)],[(36,8),(38,10)],[(39,11)],[(30,2),(40,12)]] [[],[0],[0,1],[0,1,2],[0,1,2],[0,1,2,4],[0,1,2,3,4,5],[0,1,2,3,4,5,6],[0,1,2,3,4,5,6,7],[0,1,2],[0,1,2,9],[0,1,2,3,4,5,6,7,8,9,10],[0,1,2,3,4,5,6,7,8,9,10,11],[0,1,2,3,4,5,6,7,8,9,10,11,12]] ?_
        refine Xq Ah ?_;refine Xq AL ?_;refine Xq Ah ?_;refine Xg Ah ?_;refine Xg Ah ?_;refine Xg Lp ?_;refine Xg AD ?_;refine Xg Bd ?_;refine Xg AQ ?_;refine Xg AB ?_;refine Xg AO ?_;refine Xg (Aq (FO (Bs L (k-1)).m (Bs L k).m)) ?_;refine Xg AL ?_;refine Xq Bv ?_;refine ⟨_,rfl,?_⟩
        refine Y0<|Ct<|Y1<|Wa<|Y0<|Ar<|Bp<|Az<|Cg<|Bp<|Az ?_
        exact Yf
     .have hno:¬CQ L:=λh=>hm (h k hlt).1.2.2
      rw [decide_eq_false hno]
      apply Y1;refine Wq AL ?_;refine Y0<|Ae<|Ct<|Ys<|Ae<|AWp.block<|Y1<|Wm ?_;refine Wq AD ?_;refine Wq AQ ?_;refine Al ?_;refine Wa ?_;refine Sf ?_;refine Y0<|Ae<|Y1 ?_;refine Wq AB ?_;refine Wq AO ?_;refine Wq (Aq (c1)) ?_;refine Wq Cn ?_;refine Wm ?_;refine Wg AB ?_;refine Wg AO ?_;refine Wg (Aq (c2)) ?_;refine Wg AA ?_;refine Wq Ba ?_;refine Wm ?_;refine Wg AB ?_;refine Wg AO ?_;refine Wg (Aq (Ie (Bs L k).m hm)) ?_;refine Wg Cn ?_;refine Wq Ba ?_;refine Y0<|Ct<|Y1<|Wa<|Y0<|Ar<|Az<|Bp<|Az<|Cg<|Bp<|Az ?_
      exact Yf
   .rw [decide_eq_false hq] at c1
    have hno:¬CQ L:=λh=>hq (h k hlt).1.1
    rw [decide_eq_false hno]
    apply Y1;refine Wq AL ?_;refine Y0<|Ae<|Ct<|Ys<|Ae<|AWp.block<|Y1<|Wm ?_;refine Wq AD ?_;refine Wq AQ ?_;refine Al ?_;refine Wa ?_;refine Sf ?_;refine Y0<|Ae<|Y1 ?_;refine Wq AB ?_;refine Wq AO ?_;refine Wq (Aq (c1)) ?_;refine Wq Cn ?_;refine Wm ?_;refine Ws ?_;refine Ws ?_;refine Ws ?_;refine Ws ?_;refine Wq Bv ?_;refine Wm ?_;refine Ws ?_;refine Ws ?_;refine Ws ?_;refine Ws ?_;refine Wq Bv ?_;refine Y0<|Ct<|Y1<|Wa<|Y0<|Ar<|Az<|Bp<|Az<|Cg<|Bp<|Az ?_
    exact Yf
  .obtain rfl:k=L.length:=by omega
   have hyes:CQ L:=hall
   rw [decide_eq_true hyes]
   apply Y1;refine Wq AA ?_;refine Y0<|Ae<|Cf<|BT<|BC<|BL<|BD<|Yn<|Y1<|Wa<|Y0<|Ar ?_
   exact Yf
theorem Em(a:Nat->Int)(h:In8 a 0 65535):Abs Tryz.prog 29 [BX (BW a)] (ex (.bool true)):=by
 refine Ab Tryz.func29 λs0=>?_
 rw [Tryz.ntmps29]
 apply Y1;refine Bx ?_;refine Wa<|Y0<|Ae<|Y1<|Wa<|Y0<|AWp.block ?_
 refine CA (λmz σ=>∃k,k<=8/\mz=8-k/\σ=⟨[(1,.ptr 0 0),(2,.d (ex (.bool false))),(3,.d (ex (.int .i64 (k:Nat))))],[.var 31 ((BW a).map .d)]⟩) ?le ⟨0,by omega,rfl,rfl⟩ ?round
 case le=>exact AZ (by exact Yp<|Yd<|Yd<|FrLe.nil) (by exact Yv<|HpLe.nil)
 case round=>
  rintro mz _ ⟨k,hk,rfl,rfl⟩
  by_cases hlt:k<8
  .have hk':=h k hlt
   refine Ae<|Y1<|Wm ?_;refine Wq AL ?_;refine Y0<|Ct<|Ys<|Ae<|AWp.block<|Y1<|Wm ?_;refine Wq Ee ?_;refine Wq Ep ?_;refine Wq AA ?_;refine Wm ?_;refine Wg Ah ?_;refine Wg Ee ?_;refine Wg Ep ?_;refine Wg AA ?_;refine Wq Ba ?_;refine Y0<|Cf<|Bg<|AE<|Yn<|AWp.region<|Wm ?_;refine Wq Cq ?_;refine Wa<|AWl.nil ?_
   refine ALoop.next (8-(k+1)) (by omega) ⟨k+1,by omega,rfl,rfl⟩ ?_
   exact AZ (by exact Yp<|Yd<|Yd<|FrLe.nil) (by exact Yv<|HpLe.nil)
  .obtain rfl:k=8:=by omega
   refine Ae<|Y1<|Wm ?_;refine Wq AA ?_;refine Y0<|Cf<|BT<|BC<|BL<|BD<|Yn<|Y1<|Wa<|Y0<|Ar ?_
   exact Yf
theorem Lm(a:Nat->Int)(h:¬In8 a 0 65535):Abs Tryz.prog 29 [BX (BW a)] (ex (.bool false)):=by
 refine Ab Tryz.func29 λs0=>?_
 rw [Tryz.ntmps29]
 apply Y1;refine Bx ?_;refine Wa<|Y0<|Ae<|Y1<|Wa<|Y0<|AWp.block ?_
 refine CA (λmz σ=>∃k,k<=8/\mz=8-k/\(∀j,j<k->0<=a j/\a j<=65535)/\σ=⟨[(1,.ptr 0 0),(2,.d (ex (.bool false))),(3,.d (ex (.int .i64 (k:Nat))))],[.var 31 ((BW a).map .d)]⟩) ?le ⟨0,by omega,rfl,λj hj=>absurd hj (Nat.not_lt_zero j),rfl⟩ ?round
 case le=>exact AZ (by exact Yp<|Yd<|Yd<|FrLe.nil) (by exact Yv<|HpLe.nil)
 case round=>
  rintro mz _ ⟨k,hk,rfl,hall,rfl⟩
  by_cases hlt:k<8
  .rcases (show a k<0\/(0<=a k/\65535<a k)\/(0<=a k/\a k<=65535) by omega) with h1 | ⟨h1, h2⟩ | ⟨h1, h2⟩
   .refine Ae<|Y1<|Wm ?_;refine Wq AL ?_;refine Y0<|Ct<|Ys<|Ae<|AWp.block<|Y1<|Wm ?_;refine Wq Ee ?_;refine Wq Ep ?_;refine Wq AL ?_;refine Wm ?_;refine Ws ?_;refine Ws ?_;refine Ws ?_;refine Ws ?_;refine Wq Bv ?_;refine Y0<|Ct<|Y1<|Wa<|Y0<|Ar<|Bp<|Az<|Cg<|Bp<|Az ?_
    exact Yf
   .refine Ae<|Y1<|Wm ?_;refine Wq AL ?_;refine Y0<|Ct<|Ys<|Ae<|AWp.block<|Y1<|Wm ?_;refine Wq Ee ?_;refine Wq Ep ?_;refine Wq AA ?_;refine Wm ?_;refine Wg Ah ?_;refine Wg Ee ?_;refine Wg Ep ?_;refine Wg AL ?_;refine Wq Ba ?_;refine Y0<|Ct<|Y1<|Wa<|Y0<|Ar<|Bp<|Az<|Cg<|Bp<|Az ?_
    exact Yf
   .refine Ae<|Y1<|Wm ?_;refine Wq AL ?_;refine Y0<|Ct<|Ys<|Ae<|AWp.block<|Y1<|Wm ?_;refine Wq Ee ?_;refine Wq Ep ?_;refine Wq AA ?_;refine Wm ?_;refine Wg Ah ?_;refine Wg Ee ?_;refine Wg Ep ?_;refine Wg AA ?_;refine Wq Ba ?_;refine Y0<|Cf<|Bg<|AE<|Yn<|AWp.region<|Wm ?_;refine Wq Cq ?_;refine Wa<|AWl.nil ?_
    refine ALoop.next (8-(k+1)) (by omega) ⟨k+1,by omega,rfl,λj hj=>?_,rfl⟩ ?_
    .rcases Nat.lt_succ_iff_lt_or_eq.1 hj with h3 | rfl
     .exact hall j h3
     .exact ⟨h1,h2⟩
    .exact AZ (by exact Yp<|Yd<|Yd<|FrLe.nil) (by exact Yv<|HpLe.nil)
  .obtain rfl:k=8:=by omega
   exact absurd hall h
def SS(t:Tm):RTm:=⟨decide (t.c.num<0),Af t.c.num.natAbs,decide ((t.c.den:Int)<0),Af (t.c.den:Int).natAbs,t.m⟩
theorem Td(P:List Tm):Bw P=Vb (P.map SS):=by
 unfold Bw Vb
 rw [List.map_map]
 rfl
theorem Pf{P:List Tm}{k:Nat}(h:k<P.length):Bs (P.map SS) k=SS (AM P k):=by
 unfold Bs AM
 rw [List.getD_eq_getElem?_getD,List.getElem?_map,List.getElem?_eq_getElem h]
 simp [List.getD_eq_getElem?_getD,List.getElem?_eq_getElem h]
theorem Ur(t:Tm):Lz (SS t).b (SS t).l (SS t).b' (SS t).l':=⟨t.c,rfl,rfl,rfl,rfl⟩
theorem Uy{P:List Tm}(h:SN P){k:Nat}(hk:k<P.length)(h0:0<k):0<lx (AM P (k-1)).m (AM P k).m:=by
 unfold SN at h
 rw [List.pairwise_iff_getElem] at h
 have e:∀k (hk:k<P.length),AM P k=P[k]:=λk hk=>by simp [AM,List.getD_eq_getElem?_getD,List.getElem?_eq_getElem hk]
 rw [e _ hk,e (k-1) (by omega)]
 exact h (k-1) k (by omega) hk (by omega)
theorem Rv{P:List Tm}(h:Canon P)(hi:PIn P 0 65535):CQ (P.map SS):=λk hk=>by
 rw [List.length_map] at hk
 rw [Pf hk]
 refine ⟨⟨Ur _,λe=>?_,hi _ (Dc hk)⟩,λh0=>?_⟩
 .have h1:=h.2 _ (Dc hk)
  have h2:Af (AM P k).c.num.natAbs=[]:=e
  have:=As.1 (show (Af (AM P k).c.num.natAbs).length=0 by rw [h2];rfl)
  exact Iz h1 (by omega)
 .rw [Pf (by omega)]
  show 0<DQ (AM P (k-1)).m (AM P k).m
  rw [<-FQ]
  exact Uy h.1 hk h0
theorem SZ{P:List Tm}{N:Nat}(h:PSz P N)(hN:N<=1000000000):RF (P.map SS):=λr hr=>by
 obtain ⟨t,ht,rfl⟩:=List.mem_map.1 hr
 have:=h t ht
 exact ⟨Bk _,Bk _,Nat.le_trans this.1 hN,Nat.le_trans this.2 hN⟩
open Classical in
theorem Nf(P:List Tm)(N:Nat)(h:Canon P)(hi:PIn P 0 65535)(hs:PSz P N)(hN:N<=1000000000)(hn:P.length<=1000000):Abs Tryz.prog 5 [Bw P] (ex (.bool true)):=by
 have:=OJ (P.map SS) (SZ hs hN) (by simpa using hn)
 rw [decide_eq_true (Rv h hi)] at this
 rw [Td]
 exact this
theorem Ou(c:Rat):Abs Tryz.prog 35 [BX (CL c)] (Bw (Dm c)):=by
 by_cases hz:c=0
 .have hs:=Co.2 hz
  refine Ab Tryz.func35 λs0=>?_
  rw [Tryz.ntmps35]
  apply Y1;refine Bx ?_;refine Wa<|Y0<|Ae<|Y1 ?_;refine Wq AO ?_;refine Wq (Aq (Et c)) ?_;refine Wq AL ?_;refine Y0<|Ct<|Y1<|Wa<|Y0<|Ar<|Az ?_
  exact BG (Rets.of1 (ResV.tmp rfl rfl) (D.le.trans HV (EH (by rw [Dm,if_pos hz]))))
 .have hs:c.num.sign≠0:=λe=>hz (Co.1 e)
  refine Ab Tryz.func35 λs0=>?_
  rw [Tryz.ntmps35]
  apply Y1;refine Bx ?_;refine Wa<|Y0<|Ae<|Y1 ?_;refine Wq AO ?_;refine Wq (Aq (Et c)) ?_;refine Wq AA ?_;refine Y0<|Cf<|Ys<|Y1 ?_;refine Wq AO ?_;(refine By rfl rfl ?_;(refine CW (Ad rfl) rfl rfl rfl ?_;(repeat ((first | refine ⟨_,Ck (ao rfl),?_⟩ | refine ⟨_,Po rfl,?_⟩);refine ⟨_,rfl,?_⟩));refine ⟨_,rfl,?_⟩));refine Wq (Cl (ao rfl) (Ad rfl) (Ad rfl) rfl rfl rfl rfl rfl) ?_;refine Wa<|Y0<|Ar ?_
  exact BG (Rets.of1 (ResV.tmp rfl rfl) (BK (by rw [Dm,if_neg hz];rfl)))
theorem MR(n:Int)(h0:-9223372036854775808<=n)(h1:n<=9223372036854775807):Abs Tryz.prog 12 [ex (.int .i64 n)] (Bw (Dm n)):=by
 refine Ab Tryz.func12 λs0=>?_
 rw [Tryz.ntmps12]
 refine Y1<|Wa<|Y0<|Y1<|Wm ?_;refine Wq (Aq (Fy n h0 h1)) ?_;refine Wq (Aq (Ou n)) ?_;refine Wa<|Y0<|Ar ?_
 exact Yf
theorem Sp(i:Nat)(hi:i<8):Abs Tryz.prog 34 [ex (.int .i64 (i:Nat))] (Fm [Bw [⟨1,Ex i⟩],ex (.int .i64 0)]):=by
 refine Ab Tryz.func34 λs0=>?_
 rw [Tryz.ntmps34]
 refine Y1<|Wa<|Wa<|Y0<|Ae<|Y1<|Wm ?_;refine Wq AA ?_;refine Wm ?_;refine Wg Ah ?_;refine Wg AA ?_;refine Wq Ba ?_;refine Y0<|Cf<|Ys<|Y1 ?_;(refine By rfl rfl ?_;(refine LE (Ad rfl) (Ad rfl) rfl rfl ?_;(repeat ((first | refine ⟨_,Ck (ao rfl),?_⟩ | refine ⟨_,Po rfl,?_⟩);refine ⟨_,rfl,?_⟩));refine ⟨_,rfl,?_⟩));refine Al ?_;refine Sf ?_;refine Y0<|Y1<|Wm ?_;refine Wq Ee ?_
 refine Nm 0 (BW λ_=>0) rfl rfl rfl ?_
 (refine JM (ao rfl) (ao rfl) rfl (Ad rfl) (by first | exact Ht rfl | exact LB | exact LC) (SetAt.mon (by first | omega | (simp;omega))) rfl ?_);refine Y0<|Ae ?_
 refine Dr [[],[],[(14,0),(15,1)],[(16,2)]] [[],[],[0,1],[0,1,2]] ?_
 refine Xq (Aq (Fy 1 (by omega) (by omega))) ?_;refine Xq AO ?_;(refine Hq rfl ?_;refine CW (Ad rfl) rfl rfl rfl ?_;(repeat ((first | refine ⟨_,Ck (ah rfl),?_⟩ | refine ⟨_,Po rfl,?_⟩);refine ⟨_,rfl,?_⟩));refine ⟨_,rfl,?_⟩;refine ⟨_,rfl,?_⟩);(refine Xq (Cl (ah rfl) (Ad rfl) (Ad rfl) rfl rfl rfl rfl rfl) ?_);refine ⟨_,rfl,?_⟩
 refine Wa<|Wa<|Y0<|Ar ?_
 exact BG (Ea (ResV.tmp rfl rfl) (ResV.tmp rfl rfl) (DA (D.le.refl _) (D.le.refl _)))
theorem On(i:Nat)(hi:i<8):Abs Tryz.prog 11 [ex (.int .i64 (i:Nat))] (Bw [⟨1,Ex i⟩]):=by
 refine Ab Tryz.func11 λs0=>?_
 rw [Tryz.ntmps11]
 refine Y1<|Wa<|Y0<|Y1<|Wm ?_;refine Wq (Aq (Sp i hi)) ?_;refine Wm ?_;refine Wq Gf ?_;refine Wq Gf ?_;refine Wa<|Wa<|Y0<|Y1<|Wm<|Wa<|Y0<|Ar ?_
 exact Yf
def NR(a b:Nat->Int)(k:Nat):Nat->Int:=λj=>if j<k then a j+b j else a j
theorem RR(a b:Nat->Int)(k:Nat):Nw (NR a b k) k (a k+b k)=NR a b (k+1):=by
 funext j
 simp only [Nw,NR]
 rcases Nat.lt_trichotomy j k with h | h | h
 .rw [if_neg (by omega),if_pos h,if_pos (by omega)]
 .subst h;simp
 .rw [if_neg (by omega),if_neg (by omega),if_neg (by omega)]
theorem Ts(a b:Nat->Int)(k:Nat):NR a b k k=a k:=if_neg (Nat.lt_irrefl k)
theorem QN(a b:Nat->Int)(ha:In8 a 0 65535)(hb:In8 b 0 65535)(h:In8 (AP a b) 0 65535):Abs Tryz.prog 87 [BX (BW a),BX (BW b)] (Fm [BX (BW (AP a b)),ex (.int .i64 0)]):=by
 refine Ab Tryz.func87 λs0=>?_
 rw [Tryz.ntmps87]
 apply Y1;refine Bx ?_;refine Bx ?_;refine Al ?_;refine Wa<|Y0<|Ae<|Y1<|Wa<|Y0<|AWp.block ?_
 refine CA (λmz σ=>∃k,k<=8/\mz=8-k/\σ=⟨[(2,.ptr 0 0),(3,.ptr 1 0),(4,.ptr 2 0),(6,.d (ex (.int .i64 (k:Nat))))],[.var 31 ((BW (NR a b k)).map .d),.var 31 ((BW b).map .d),.var 31 ((BW λ_=>0).map .d)]⟩) ?le ⟨0,by omega,rfl,rfl⟩ ?round
 case le=>exact AZ (by exact Yp<|Yp<|Yp<|Yd<|FrLe.nil) (by exact Yv<|Yv<|Yv<|HpLe.nil)
 case round=>
  rintro mz _ ⟨k,hk,rfl,rfl⟩
  by_cases hlt:k<8
  .have h1:=Ts a b k
   have h2:=ha k hlt
   have h3:=hb k hlt
   refine Ae<|Y1<|Wm ?_;refine Wq AL ?_;refine Y0<|Ct<|Ys<|Ae<|AWp.block ?_
   refine Dr [[],[(11,0)],[(12,1)],[],[(14,3)],[(15,4)],[(13,2),(16,5)],[(11,0)]] [[],[0],[0,1],[],[3],[3,4],[0,1,2,3,4,5],[0,1,2,3,4,5,6]] ?_
   refine Xq Ah ?_;refine Xq Ee ?_;refine Xq Ep ?_;refine Xq Ah ?_;refine Xq Ee ?_;refine Xq Ep ?_;refine Xq Sy ?_;refine Xq Ee ?_;refine ⟨_,rfl,?_⟩
   (refine JM (ao rfl) (ao rfl) rfl (Ad rfl) (by first | exact Ht rfl | exact LB | exact LC) (SetAt.mon (by first | omega | (simp;omega))) rfl ?_);refine AWl.nil<|AE<|Yn<|AWp.region<|Wm ?_;refine Wq Cq ?_;refine Wa<|AWl.nil ?_
   refine ALoop.next (8-(k+1)) (by omega) ⟨k+1,by omega,rfl,rfl⟩ ?_
   exact AZ (by exact Yp<|Yp<|Yp<|Yd<|FrLe.nil) (by exact HpLe.cons (Gy (by rw [h1,RR]))<|Yv<|Yv<|HpLe.nil)
  .obtain rfl:k=8:=by omega
   refine Ae<|Y1<|Wm ?_;refine Wq AA ?_;refine Y0<|Cf<|BT<|BC<|BL<|BD<|Yn<|Ae<|Y1 ?_;refine Wq AO ?_;refine Wq (Aq (Em (NR a b 8) λi hi=>by have:=h i hi;rw [NR,if_pos hi];exact this)) ?_;refine Wq Cn ?_;refine Y0<|Cf<|Ys<|Y1 ?_;refine Wq AO ?_;refine Sf ?_;refine Wa<|Y0<|Ar ?_
   exact BG (Ea (ResV.cell rfl rfl (Ad rfl) rfl rfl rfl) (ResV.tmp rfl rfl) (DA (D.le.refl _) (D.le.refl _)))
theorem RO{s t:Tm}{P Q:List Tm}(h:lx s.m t.m=1):Dq (s::P) (t::Q)=s::Dq P (t::Q):=by
 rw [Dq,if_pos (show 0<lx s.m t.m by omega)]
theorem Ut{s t:Tm}{P Q:List Tm}(h:lx s.m t.m = -1):Dq (s::P) (t::Q)=t::Dq (s::P) Q:=by
 rw [Dq,if_neg (show ¬0<lx s.m t.m by omega),if_pos (show lx s.m t.m<0 by omega)]
theorem RP{s t:Tm}{P Q:List Tm}(h:lx s.m t.m=0):Dq (s::P) (t::Q)=if s.c+t.c=0 then Dq P Q else ⟨s.c+t.c,s.m⟩::Dq P Q:=by
 rw [Dq,if_neg (show ¬0<lx s.m t.m by omega),if_neg (show ¬lx s.m t.m<0 by omega)]
theorem Hf(Q:List Tm):Dq [] Q=Q:=by rw [Dq]
theorem MU(P Q:List Tm)(N M:Nat)(hP:PSz P N)(hQ:PSz Q M)(hNM:N+M+1<=4398046511103)(hn:P.length+Q.length<=100000):Abs Tryz.prog 44 [Bw P,Bw Q] (Bw (Dq P Q)):=by
 refine Ab Tryz.func44 λs0=>?_
 rw [Tryz.ntmps44]
 refine Y1<|Wa<|Y0<|Y1 ?_;refine LF (Ad rfl) (Ad rfl) rfl rfl rfl rfl rfl ?_;refine Wa<|Y0<|Y1<|Wa<|Wa<|Y0<|Ae<|AWp.block ?_
 refine CA (λmz σ=>∃(i k:Nat) (R:List Tm),i<=P.length/\k<=Q.length/\R++Dq (P.drop i) (Q.drop k)=Dq P Q/\R.length<=i+k/\mz=(P.length-i)+(Q.length-k)/\σ=⟨[(0,.d (Bw P)),(1,.d (Bw Q)),(5,.own 0),(6,.d (ex (.int .i64 (i:Nat)))),(7,.d (ex (.int .i64 (k:Nat))))],[.row 33 12 (R.map GW)]⟩) ?le ⟨0,0,[],by omega,by omega,rfl,by simp,rfl,rfl⟩ ?round
 case le=>exact AZ (by exact Yd<|Yd<|FrLe.cons rfl (AVle.own rfl)<|Yd<|Yd<|FrLe.nil) (by exact Yr<|HpLe.nil)
 case round=>
  rintro mz _ ⟨i,k,R,hi,hk,heq,hl,rfl,rfl⟩
  by_cases hip:i<P.length
  .have hdP:=Jp hip
   by_cases hkq:k<Q.length
   .have hdQ:=Jp hkq
    rw [hdP,hdQ] at heq
    have hs:=hP _ (Dc hip)
    have ht:=hQ _ (Dc hkq)
    rcases Jb (AM P i).m (AM Q k).m with hc | hc | hc
    .have hc':DQ (AM P i).m (AM Q k).m = -1:=by rw [<-FQ]; exact hc
     refine Ae<|Y1<|Wm<|Wm ?_;refine Wq Bb ?_;refine Wq AL ?_;refine Wm ?_;refine Ws ?_;refine Ws ?_;refine Ws ?_;refine Ws ?_;refine Wq Bv ?_;refine Y0<|Ct<|Ys<|AWp.block<|Ae<|Ae ?_
     refine Dr [[],[],[(21,1)],[(20,0),(22,2)],[(23,3)],[],[],[(26,6)],[(25,5),(27,7)],[(28,8)],[],[],[(30,10),(31,11)],[(32,12)],[(33,13)],[],[],[(35,15),(36,16)],[(37,17)],[(38,18)],[(34,14),(39,19)],[(40,20)],[(29,9),(41,21)],[(24,4),(42,22)]] [[],[],[1],[0,1,2],[0,1,2,3],[0,1,2,3,4],[0,1,2,3,4],[0,1,2,3,4,6],[0,1,2,3,4,5,6,7],[0,1,2,3,4,5,6,7,8],[0,1,2,3,4,5,6,7,8,9],[0,1,2,3,4,5,6,7,8,9],[0,1,2,3,4,5,6,7,8,9,10,11],[0,1,2,3,4,5,6,7,8,9,10,11,12],[0,1,2,3,4,5,6,7,8,9,10,11,12,13],[0,1,2,3,4,5,6,7,8,9],[0,1,2,3,4,5,6,7,8,9],[0,1,2,3,4,5,6,7,8,9,15,16],[0,1,2,3,4,5,6,7,8,9,15,16,17],[0,1,2,3,4,5,6,7,8,9,15,16,17,18],[0,1,2,3,4,5,6,7,8,9,10,11,12,13,14,15,16,17,18,19],[0,1,2,3,4,5,6,7,8,9,10,11,12,13,14,15,16,17,18,19,20],[0,1,2,3,4,5,6,7,8,9,10,11,12,13,14,15,16,17,18,19,20,21],[0,1,2,3,4,5,6,7,8,9,10,11,12,13,14,15,16,17,18,19,20,21,22]] ?_
     refine Xq Ah ?_;refine Xq Ah ?_;refine Xq Bb ?_;refine Xq AA ?_;refine Xq Ah ?_;refine Xg Ah ?_;refine Xg Ah ?_;refine Xg Bb ?_;refine Xg AL ?_;refine Xg Ah ?_;refine Xg Ah ?_;refine Xg Ah ?_;refine Xg AD ?_;refine Xg Bd ?_;refine Xg AQ ?_;refine Xg Ah ?_;refine Xg Ah ?_;refine Xg AD ?_;refine Xg Bd ?_;refine Xg AQ ?_;refine Xg (Aq (Dk (AM P i).m (AM Q k).m)) ?_;refine Xg AA ?_;refine Xg Bv ?_;refine Xq Ba ?_;refine ⟨_,rfl,?_⟩
     refine Y0<|Cf<|Ys<|Ae<|Ae ?_
     refine Dr [[],[],[(54,1)],[(53,0),(55,2)],[(56,3)],[],[],[(58,5),(59,6)],[(60,7)],[(61,8)],[],[],[(63,10),(64,11)],[(65,12)],[(66,13)],[(62,9),(67,14)],[(68,15)],[(57,4),(69,16)]] [[],[],[1],[0,1,2],[0,1,2,3],[0,1,2,3,4],[0,1,2,3,4],[0,1,2,3,4,5,6],[0,1,2,3,4,5,6,7],[0,1,2,3,4,5,6,7,8],[0,1,2,3,4],[0,1,2,3,4],[0,1,2,3,4,10,11],[0,1,2,3,4,10,11,12],[0,1,2,3,4,10,11,12,13],[0,1,2,3,4,5,6,7,8,9,10,11,12,13,14],[0,1,2,3,4,5,6,7,8,9,10,11,12,13,14,15],[0,1,2,3,4,5,6,7,8,9,10,11,12,13,14,15,16]] ?_
     refine Xq Ah ?_;refine Xq Ah ?_;refine Xq Bb ?_;refine Xq AA ?_;refine Xq Ah ?_;refine Xg Ah ?_;refine Xg Ah ?_;refine Xg AD ?_;refine Xg Bd ?_;refine Xg AQ ?_;refine Xg Ah ?_;refine Xg Ah ?_;refine Xg AD ?_;refine Xg Bd ?_;refine Xg AQ ?_;refine Xg (Aq (Dk (AM P i).m (AM Q k).m)) ?_;refine Xg AL ?_;refine Xq Ba ?_;refine ⟨_,rfl,?_⟩
     refine Y0<|Ct<|Y1<|Wm<|Wm<|Wm ?_;refine Wq AD ?_;refine Wq AQ ?_;refine Wq (Cl (ao rfl) (Ad rfl) (Ad rfl) rfl rfl rfl rfl rfl) ?_;(refine Ap ?_);refine Wa<|Y0<|Y1<|Wm ?_;refine Wq Cq ?_;refine Wa<|Y0<|BT<|BC<|BD ?_
     refine ALoop.next ((P.length-i)+(Q.length-(k+1))) (by omega) ⟨i,k+1,R++[AM Q k],by omega,by omega,?_,by simp;omega,rfl,rfl⟩ ?_
     .rw [Ut hc] at heq
      rw [<-heq,hdP];simp
     .exact AZ (by exact Yd<|Yd<|FrLe.cons rfl (AVle.own rfl)<|Yd<|Yd<|FrLe.nil) (by refine HpLe.cons (CI (Dd GW R (AM Q k))) ?_;exact HpLe.nil)
    .have hc':DQ (AM P i).m (AM Q k).m=0:=by rw [<-FQ]; exact hc
     by_cases hz:(AM P i).c+(AM Q k).c=0
     .have hsg:=Co.2 hz
      refine Ae<|Y1<|Wm<|Wm ?_;refine Wq Bb ?_;refine Wq AL ?_;refine Wm ?_;refine Ws ?_;refine Ws ?_;refine Ws ?_;refine Ws ?_;refine Wq Bv ?_;refine Y0<|Ct<|Ys<|AWp.block<|Ae<|Ae ?_
      refine Dr [[],[],[(21,1)],[(20,0),(22,2)],[(23,3)],[],[],[(26,6)],[(25,5),(27,7)],[(28,8)],[],[],[(30,10),(31,11)],[(32,12)],[(33,13)],[],[],[(35,15),(36,16)],[(37,17)],[(38,18)],[(34,14),(39,19)],[(40,20)],[(29,9),(41,21)],[(24,4),(42,22)]] [[],[],[1],[0,1,2],[0,1,2,3],[0,1,2,3,4],[0,1,2,3,4],[0,1,2,3,4,6],[0,1,2,3,4,5,6,7],[0,1,2,3,4,5,6,7,8],[0,1,2,3,4,5,6,7,8,9],[0,1,2,3,4,5,6,7,8,9],[0,1,2,3,4,5,6,7,8,9,10,11],[0,1,2,3,4,5,6,7,8,9,10,11,12],[0,1,2,3,4,5,6,7,8,9,10,11,12,13],[0,1,2,3,4,5,6,7,8,9],[0,1,2,3,4,5,6,7,8,9],[0,1,2,3,4,5,6,7,8,9,15,16],[0,1,2,3,4,5,6,7,8,9,15,16,17],[0,1,2,3,4,5,6,7,8,9,15,16,17,18],[0,1,2,3,4,5,6,7,8,9,10,11,12,13,14,15,16,17,18,19],[0,1,2,3,4,5,6,7,8,9,10,11,12,13,14,15,16,17,18,19,20],[0,1,2,3,4,5,6,7,8,9,10,11,12,13,14,15,16,17,18,19,20,21],[0,1,2,3,4,5,6,7,8,9,10,11,12,13,14,15,16,17,18,19,20,21,22]] ?_
      refine Xq Ah ?_;refine Xq Ah ?_;refine Xq Bb ?_;refine Xq AA ?_;refine Xq Ah ?_;refine Xg Ah ?_;refine Xg Ah ?_;refine Xg Bb ?_;refine Xg AL ?_;refine Xg Ah ?_;refine Xg Ah ?_;refine Xg Ah ?_;refine Xg AD ?_;refine Xg Bd ?_;refine Xg AQ ?_;refine Xg Ah ?_;refine Xg Ah ?_;refine Xg AD ?_;refine Xg Bd ?_;refine Xg AQ ?_;refine Xg (Aq (Dk (AM P i).m (AM Q k).m)) ?_;refine Xg AA ?_;refine Xg Bv ?_;refine Xq Ba ?_;refine ⟨_,rfl,?_⟩
      refine Y0<|Cf<|Ys<|Ae<|Ae ?_
      refine Dr [[],[],[(54,1)],[(53,0),(55,2)],[(56,3)],[],[],[(58,5),(59,6)],[(60,7)],[(61,8)],[],[],[(63,10),(64,11)],[(65,12)],[(66,13)],[(62,9),(67,14)],[(68,15)],[(57,4),(69,16)]] [[],[],[1],[0,1,2],[0,1,2,3],[0,1,2,3,4],[0,1,2,3,4],[0,1,2,3,4,5,6],[0,1,2,3,4,5,6,7],[0,1,2,3,4,5,6,7,8],[0,1,2,3,4],[0,1,2,3,4],[0,1,2,3,4,10,11],[0,1,2,3,4,10,11,12],[0,1,2,3,4,10,11,12,13],[0,1,2,3,4,5,6,7,8,9,10,11,12,13,14],[0,1,2,3,4,5,6,7,8,9,10,11,12,13,14,15],[0,1,2,3,4,5,6,7,8,9,10,11,12,13,14,15,16]] ?_
      refine Xq Ah ?_;refine Xq Ah ?_;refine Xq Bb ?_;refine Xq AA ?_;refine Xq Ah ?_;refine Xg Ah ?_;refine Xg Ah ?_;refine Xg AD ?_;refine Xg Bd ?_;refine Xg AQ ?_;refine Xg Ah ?_;refine Xg Ah ?_;refine Xg AD ?_;refine Xg Bd ?_;refine Xg AQ ?_;refine Xg (Aq (Dk (AM P i).m (AM Q k).m)) ?_;refine Xg AA ?_;refine Xq Ba ?_;refine ⟨_,rfl,?_⟩
      refine Y0<|Cf<|Ys<|Ae ?_
      refine Dr [[],[],[(80,0),(81,1)],[(82,2)],[(83,3)],[],[],[(85,5),(86,6)],[(87,7)],[(88,8)],[(84,4),(89,9)],[]] [[],[],[0,1],[0,1,2],[0,1,2,3],[],[],[5,6],[5,6,7],[5,6,7,8],[0,1,2,3,4,5,6,7,8,9],[]] ?_
      refine Xq Ah ?_;refine Xq Ah ?_;refine Xq AD ?_;refine Xq Bd ?_;refine Xq Ge ?_;refine Xq Ah ?_;refine Xq Ah ?_;refine Xq AD ?_;refine Xq Bd ?_;refine Xq Ge ?_;refine Xq (Aq (MV (AM P i).c (AM Q k).c N M hs ht hNM)) ?_;refine Xn ?_;refine ⟨_,rfl,?_⟩
      refine Sf ?_;refine Y0<|Ae<|Y1 ?_;refine Wq AO ?_;refine Wq (Aq (Et ((AM P i).c+(AM Q k).c))) ?_;refine Wq AA ?_;refine Y0<|Cf<|Ys<|Y1<|Wm ?_;refine Wq Cq ?_;refine Wa<|Y0<|AWp.region<|Wm ?_;refine Wq Cq ?_;refine Wa<|AWl.nil<|AE ?_
      refine ALoop.next ((P.length-(i+1))+(Q.length-(k+1))) (by omega) ⟨i+1,k+1,R,by omega,by omega,?_,by omega,rfl,rfl⟩ ?_
      .rw [RP hc,if_pos hz] at heq
       exact heq
      .exact AZ (by exact Yd<|Yd<|FrLe.cons rfl (AVle.own rfl)<|Yd<|Yd<|FrLe.nil) (by exact Yr<|HpLe.nil)
     .have hsg:((AM P i).c+(AM Q k).c).num.sign≠0:=λe=>hz (Co.1 e)
      refine Ae<|Y1<|Wm<|Wm ?_;refine Wq Bb ?_;refine Wq AL ?_;refine Wm ?_;refine Ws ?_;refine Ws ?_;refine Ws ?_;refine Ws ?_;refine Wq Bv ?_;refine Y0<|Ct<|Ys<|AWp.block<|Ae<|Ae ?_
      refine Dr [[],[],[(21,1)],[(20,0),(22,2)],[(23,3)],[],[],[(26,6)],[(25,5),(27,7)],[(28,8)],[],[],[(30,10),(31,11)],[(32,12)],[(33,13)],[],[],[(35,15),(36,16)],[(37,17)],[(38,18)],[(34,14),(39,19)],[(40,20)],[(29,9),(41,21)],[(24,4),(42,22)]] [[],[],[1],[0,1,2],[0,1,2,3],[0,1,2,3,4],[0,1,2,3,4],[0,1,2,3,4,6],[0,1,2,3,4,5,6,7],[0,1,2,3,4,5,6,7,8],[0,1,2,3,4,5,6,7,8,9],[0,1,2,3,4,5,6,7,8,9],[0,1,2,3,4,5,6,7,8,9,10,11],[0,1,2,3,4,5,6,7,8,9,10,11,12],[0,1,2,3,4,5,6,7,8,9,10,11,12,13],[0,1,2,3,4,5,6,7,8,9],[0,1,2,3,4,5,6,7,8,9],[0,1,2,3,4,5,6,7,8,9,15,16],[0,1,2,3,4,5,6,7,8,9,15,16,17],[0,1,2,3,4,5,6,7,8,9,15,16,17,18],[0,1,2,3,4,5,6,7,8,9,10,11,12,13,14,15,16,17,18,19],[0,1,2,3,4,5,6,7,8,9,10,11,12,13,14,15,16,17,18,19,20],[0,1,2,3,4,5,6,7,8,9,10,11,12,13,14,15,16,17,18,19,20,21],[0,1,2,3,4,5,6,7,8,9,10,11,12,13,14,15,16,17,18,19,20,21,22]] ?_
      refine Xq Ah ?_;refine Xq Ah ?_;refine Xq Bb ?_;refine Xq AA ?_;refine Xq Ah ?_;refine Xg Ah ?_;refine Xg Ah ?_;refine Xg Bb ?_;refine Xg AL ?_;refine Xg Ah ?_;refine Xg Ah ?_;refine Xg Ah ?_;refine Xg AD ?_;refine Xg Bd ?_;refine Xg AQ ?_;refine Xg Ah ?_;refine Xg Ah ?_;refine Xg AD ?_;refine Xg Bd ?_;refine Xg AQ ?_;refine Xg (Aq (Dk (AM P i).m (AM Q k).m)) ?_;refine Xg AA ?_;refine Xg Bv ?_;refine Xq Ba ?_;refine ⟨_,rfl,?_⟩
      refine Y0<|Cf<|Ys<|Ae<|Ae ?_
      refine Dr [[],[],[(54,1)],[(53,0),(55,2)],[(56,3)],[],[],[(58,5),(59,6)],[(60,7)],[(61,8)],[],[],[(63,10),(64,11)],[(65,12)],[(66,13)],[(62,9),(67,14)],[(68,15)],[(57,4),(69,16)]] [[],[],[1],[0,1,2],[0,1,2,3],[0,1,2,3,4],[0,1,2,3,4],[0,1,2,3,4,5,6],[0,1,2,3,4,5,6,7],[0,1,2,3,4,5,6,7,8],[0,1,2,3,4],[0,1,2,3,4],[0,1,2,3,4,10,11],[0,1,2,3,4,10,11,12],[0,1,2,3,4,10,11,12,13],[0,1,2,3,4,5,6,7,8,9,10,11,12,13,14],[0,1,2,3,4,5,6,7,8,9,10,11,12,13,14,15],[0,1,2,3,4,5,6,7,8,9,10,11,12,13,14,15,16]] ?_
      refine Xq Ah ?_;refine Xq Ah ?_;refine Xq Bb ?_;refine Xq AA ?_;refine Xq Ah ?_;refine Xg Ah ?_;refine Xg Ah ?_;refine Xg AD ?_;refine Xg Bd ?_;refine Xg AQ ?_;refine Xg Ah ?_;refine Xg Ah ?_;refine Xg AD ?_;refine Xg Bd ?_;refine Xg AQ ?_;refine Xg (Aq (Dk (AM P i).m (AM Q k).m)) ?_;refine Xg AA ?_;refine Xq Ba ?_;refine ⟨_,rfl,?_⟩
      refine Y0<|Cf<|Ys<|Ae ?_
      refine Dr [[],[],[(80,0),(81,1)],[(82,2)],[(83,3)],[],[],[(85,5),(86,6)],[(87,7)],[(88,8)],[(84,4),(89,9)],[]] [[],[],[0,1],[0,1,2],[0,1,2,3],[],[],[5,6],[5,6,7],[5,6,7,8],[0,1,2,3,4,5,6,7,8,9],[]] ?_
      refine Xq Ah ?_;refine Xq Ah ?_;refine Xq AD ?_;refine Xq Bd ?_;refine Xq Ge ?_;refine Xq Ah ?_;refine Xq Ah ?_;refine Xq AD ?_;refine Xq Bd ?_;refine Xq Ge ?_;refine Xq (Aq (MV (AM P i).c (AM Q k).c N M hs ht hNM)) ?_;refine Xn ?_;refine ⟨_,rfl,?_⟩
      refine Sf ?_;refine Y0<|Ae<|Y1 ?_;refine Wq AO ?_;refine Wq (Aq (Et ((AM P i).c+(AM Q k).c))) ?_;refine Wq AL ?_;refine Y0<|Ct ?_
      refine Dr [[],[],[],[],[(96,2),(97,3)],[(98,4)],[(99,5)],[(95,1),(100,6)],[(101,7)]] [[],[],[],[],[2,3],[2,3,4],[2,3,4,5],[1,2,3,4,5,6],[1,2,3,4,5,6,7]] ?_
      refine Xq Ah ?_;refine Xq AO ?_;refine Xq Ah ?_;refine Xq Ah ?_;refine Xq AD ?_;refine Xq Bd ?_;refine Xq AQ ?_;(refine Hq rfl ?_;refine CW (Ad rfl) rfl rfl rfl ?_;(repeat ((first | refine ⟨_,Ck (ah rfl),?_⟩ | refine ⟨_,Po rfl,?_⟩);refine ⟨_,rfl,?_⟩));refine ⟨_,rfl,?_⟩;refine ⟨_,rfl,?_⟩);(refine Xq (Cl (ah rfl) (Ad rfl) (Ad rfl) rfl rfl rfl rfl rfl) ?_);refine ⟨_,rfl,?_⟩
      (refine Ap ?_);refine Wa<|Y0<|Y1<|Wm ?_;refine Wq Cq ?_;refine Wa<|Y0<|AWp.region<|Wm ?_;refine Wq Cq ?_;refine Wa<|AWl.nil<|AE ?_
      refine ALoop.next ((P.length-(i+1))+(Q.length-(k+1))) (by omega) ⟨i+1,k+1,R++[⟨(AM P i).c+(AM Q k).c,(AM P i).m⟩],by omega,by omega,?_,by simp;omega,rfl,rfl⟩ ?_
      .rw [RP hc,if_neg hz] at heq
       rw [<-heq];simp
      .exact AZ (by exact Yd<|Yd<|FrLe.cons rfl (AVle.own rfl)<|Yd<|Yd<|FrLe.nil) (by refine HpLe.cons (CI (Dd GW R ⟨(AM P i).c+(AM Q k).c,(AM P i).m⟩)) ?_;exact HpLe.nil)
    .have hc':DQ (AM P i).m (AM Q k).m=1:=by rw [<-FQ]; exact hc
     refine Ae<|Y1<|Wm<|Wm ?_;refine Wq Bb ?_;refine Wq AL ?_;refine Wm ?_;refine Ws ?_;refine Ws ?_;refine Ws ?_;refine Ws ?_;refine Wq Bv ?_;refine Y0<|Ct<|Ys<|AWp.block<|Ae<|Ae ?_
     refine Dr [[],[],[(21,1)],[(20,0),(22,2)],[(23,3)],[],[],[(26,6)],[(25,5),(27,7)],[(28,8)],[],[],[(30,10),(31,11)],[(32,12)],[(33,13)],[],[],[(35,15),(36,16)],[(37,17)],[(38,18)],[(34,14),(39,19)],[(40,20)],[(29,9),(41,21)],[(24,4),(42,22)]] [[],[],[1],[0,1,2],[0,1,2,3],[0,1,2,3,4],[0,1,2,3,4],[0,1,2,3,4,6],[0,1,2,3,4,5,6,7],[0,1,2,3,4,5,6,7,8],[0,1,2,3,4,5,6,7,8,9],[0,1,2,3,4,5,6,7,8,9],[0,1,2,3,4,5,6,7,8,9,10,11],[0,1,2,3,4,5,6,7,8,9,10,11,12],[0,1,2,3,4,5,6,7,8,9,10,11,12,13],[0,1,2,3,4,5,6,7,8,9],[0,1,2,3,4,5,6,7,8,9],[0,1,2,3,4,5,6,7,8,9,15,16],[0,1,2,3,4,5,6,7,8,9,15,16,17],[0,1,2,3,4,5,6,7,8,9,15,16,17,18],[0,1,2,3,4,5,6,7,8,9,10,11,12,13,14,15,16,17,18,19],[0,1,2,3,4,5,6,7,8,9,10,11,12,13,14,15,16,17,18,19,20],[0,1,2,3,4,5,6,7,8,9,10,11,12,13,14,15,16,17,18,19,20,21],[0,1,2,3,4,5,6,7,8,9,10,11,12,13,14,15,16,17,18,19,20,21,22]] ?_
     refine Xq Ah ?_;refine Xq Ah ?_;refine Xq Bb ?_;refine Xq AA ?_;refine Xq Ah ?_;refine Xg Ah ?_;refine Xg Ah ?_;refine Xg Bb ?_;refine Xg AL ?_;refine Xg Ah ?_;refine Xg Ah ?_;refine Xg Ah ?_;refine Xg AD ?_;refine Xg Bd ?_;refine Xg AQ ?_;refine Xg Ah ?_;refine Xg Ah ?_;refine Xg AD ?_;refine Xg Bd ?_;refine Xg AQ ?_;refine Xg (Aq (Dk (AM P i).m (AM Q k).m)) ?_;refine Xg AL ?_;refine Xg Bv ?_;refine Xq Ba ?_;refine ⟨_,rfl,?_⟩
     refine Y0<|Ct<|Y1<|Wm<|Wm<|Wm ?_;refine Wq AD ?_;refine Wq AQ ?_;refine Wq (Cl (ao rfl) (Ad rfl) (Ad rfl) rfl rfl rfl rfl rfl) ?_;(refine Ap ?_);refine Wa<|Y0<|Y1<|Wm ?_;refine Wq Cq ?_;refine Wa<|Y0<|BT<|BC<|BD ?_
     refine ALoop.next ((P.length-(i+1))+(Q.length-k)) (by omega) ⟨i+1,k,R++[AM P i],by omega,by omega,?_,by simp;omega,rfl,rfl⟩ ?_
     .rw [RO hc] at heq
      rw [<-heq,hdQ];simp
     .exact AZ (by exact Yd<|Yd<|FrLe.cons rfl (AVle.own rfl)<|Yd<|Yd<|FrLe.nil) (by refine HpLe.cons (CI (Dd GW R (AM P i))) ?_;exact HpLe.nil)
   .refine Ae<|Y1<|Wm<|Wm ?_;refine Wq Bb ?_;refine Wq AL ?_;refine Wm ?_;refine Ws ?_;refine Ws ?_;refine Ws ?_;refine Ws ?_;refine Wq Bv ?_;refine Y0<|Ct<|Ys<|AWp.block<|Ae<|Ae ?_
    refine Dr [[],[],[(21,1)],[(20,0),(22,2)],[(23,3)],[],[],[(26,6)],[(25,5),(27,7)],[(28,8)],[],[],[(30,10),(31,11)],[(32,12)],[(33,13)],[],[],[(35,15),(36,16)],[(37,17)],[(38,18)],[(34,14),(39,19)],[(40,20)],[(29,9),(41,21)],[(24,4),(42,22)]] [[],[],[1],[0,1,2],[0,1,2,3],[0,1,2,3,4],[0,1,2,3,4],[0,1,2,3,4,6],[0,1,2,3,4,5,6,7],[0,1,2,3,4,5,6,7,8],[0,1,2,3,4,5,6,7,8,9],[0,1,2,3,4,5,6,7,8,9],[0,1,2,3,4,5,6,7,8,9,10,11],[0,1,2,3,4,5,6,7,8,9,10,11,12],[0,1,2,3,4,5,6,7,8,9,10,11,12,13],[0,1,2,3,4,5,6,7,8,9],[0,1,2,3,4,5,6,7,8,9],[0,1,2,3,4,5,6,7,8,9,15,16],[0,1,2,3,4,5,6,7,8,9,15,16,17],[0,1,2,3,4,5,6,7,8,9,15,16,17,18],[0,1,2,3,4,5,6,7,8,9,10,11,12,13,14,15,16,17,18,19],[0,1,2,3,4,5,6,7,8,9,10,11,12,13,14,15,16,17,18,19,20],[0,1,2,3,4,5,6,7,8,9,10,11,12,13,14,15,16,17,18,19,20,21],[0,1,2,3,4,5,6,7,8,9,10,11,12,13,14,15,16,17,18,19,20,21,22]] ?_
    refine Xq Ah ?_;refine Xq Ah ?_;refine Xq Bb ?_;refine Xq AL ?_;refine Xq Ah ?_;refine Xs ?_;refine Xs ?_;refine Xs ?_;refine Xs ?_;refine Xs ?_;refine Xs ?_;refine Xs ?_;refine Xs ?_;refine Xs ?_;refine Xs ?_;refine Xs ?_;refine Xs ?_;refine Xs ?_;refine Xs ?_;refine Xs ?_;refine Xs ?_;refine Xs ?_;refine Xs ?_;refine Xq Bv ?_;refine ⟨_,rfl,?_⟩
    refine Y0<|Ct<|Y1<|Wm<|Wm<|Wm ?_;refine Wq AD ?_;refine Wq AQ ?_;refine Wq (Cl (ao rfl) (Ad rfl) (Ad rfl) rfl rfl rfl rfl rfl) ?_;(refine Ap ?_);refine Wa<|Y0<|Y1<|Wm ?_;refine Wq Cq ?_;refine Wa<|Y0<|BT<|BC<|BD ?_
    refine ALoop.next ((P.length-(i+1))+(Q.length-k)) (by omega) ⟨i+1,k,R++[AM P i],by omega,by omega,?_,by simp;omega,rfl,rfl⟩ ?_
    .have hq:Q.drop k=[]:=List.drop_eq_nil_of_le (by omega)
     rw [hdP,hq,KW] at heq
     rw [<-heq,hq,KW];simp
    .exact AZ (by exact Yd<|Yd<|FrLe.cons rfl (AVle.own rfl)<|Yd<|Yd<|FrLe.nil) (by refine HpLe.cons (CI (Dd GW R (AM P i))) ?_;exact HpLe.nil)
  .have hp:P.drop i=[]:=List.drop_eq_nil_of_le (by omega)
   by_cases hkq:k<Q.length
   .have hdQ:=Jp hkq
    refine Ae<|Y1<|Wm<|Wm ?_;refine Wq Bb ?_;refine Wq AA ?_;refine Wm ?_;refine Wg Ah ?_;refine Wg Ah ?_;refine Wg Bb ?_;refine Wg AL ?_;refine Wq Ba ?_;refine Y0<|Ct<|Ys<|AWp.block<|Ae<|Ae ?_
    refine Dr [[],[],[(21,1)],[(20,0),(22,2)],[(23,3)],[],[],[(26,6)],[(25,5),(27,7)],[(28,8)],[],[],[(30,10),(31,11)],[(32,12)],[(33,13)],[],[],[(35,15),(36,16)],[(37,17)],[(38,18)],[(34,14),(39,19)],[(40,20)],[(29,9),(41,21)],[(24,4),(42,22)]] [[],[],[1],[0,1,2],[0,1,2,3],[0,1,2,3,4],[0,1,2,3,4],[0,1,2,3,4,6],[0,1,2,3,4,5,6,7],[0,1,2,3,4,5,6,7,8],[0,1,2,3,4,5,6,7,8,9],[0,1,2,3,4,5,6,7,8,9],[0,1,2,3,4,5,6,7,8,9,10,11],[0,1,2,3,4,5,6,7,8,9,10,11,12],[0,1,2,3,4,5,6,7,8,9,10,11,12,13],[0,1,2,3,4,5,6,7,8,9],[0,1,2,3,4,5,6,7,8,9],[0,1,2,3,4,5,6,7,8,9,15,16],[0,1,2,3,4,5,6,7,8,9,15,16,17],[0,1,2,3,4,5,6,7,8,9,15,16,17,18],[0,1,2,3,4,5,6,7,8,9,10,11,12,13,14,15,16,17,18,19],[0,1,2,3,4,5,6,7,8,9,10,11,12,13,14,15,16,17,18,19,20],[0,1,2,3,4,5,6,7,8,9,10,11,12,13,14,15,16,17,18,19,20,21],[0,1,2,3,4,5,6,7,8,9,10,11,12,13,14,15,16,17,18,19,20,21,22]] ?_
    refine Xq Ah ?_;refine Xq Ah ?_;refine Xq Bb ?_;refine Xq AA ?_;refine Xq Ah ?_;refine Xg Ah ?_;refine Xg Ah ?_;refine Xg Bb ?_;refine Xg AA ?_;refine Xg Ah ?_;refine Xs ?_;refine Xs ?_;refine Xs ?_;refine Xs ?_;refine Xs ?_;refine Xs ?_;refine Xs ?_;refine Xs ?_;refine Xs ?_;refine Xs ?_;refine Xs ?_;refine Xs ?_;refine Xg Ba ?_;refine Xq Ba ?_;refine ⟨_,rfl,?_⟩
    refine Y0<|Cf<|Ys<|Ae<|Ae ?_
    refine Dr [[],[],[(54,1)],[(53,0),(55,2)],[(56,3)],[],[],[(58,5),(59,6)],[(60,7)],[(61,8)],[],[],[(63,10),(64,11)],[(65,12)],[(66,13)],[(62,9),(67,14)],[(68,15)],[(57,4),(69,16)]] [[],[],[1],[0,1,2],[0,1,2,3],[0,1,2,3,4],[0,1,2,3,4],[0,1,2,3,4,5,6],[0,1,2,3,4,5,6,7],[0,1,2,3,4,5,6,7,8],[0,1,2,3,4],[0,1,2,3,4],[0,1,2,3,4,10,11],[0,1,2,3,4,10,11,12],[0,1,2,3,4,10,11,12,13],[0,1,2,3,4,5,6,7,8,9,10,11,12,13,14],[0,1,2,3,4,5,6,7,8,9,10,11,12,13,14,15],[0,1,2,3,4,5,6,7,8,9,10,11,12,13,14,15,16]] ?_
    refine Xq Ah ?_;refine Xq Ah ?_;refine Xq Bb ?_;refine Xq AL ?_;refine Xq Ah ?_;refine Xs ?_;refine Xs ?_;refine Xs ?_;refine Xs ?_;refine Xs ?_;refine Xs ?_;refine Xs ?_;refine Xs ?_;refine Xs ?_;refine Xs ?_;refine Xs ?_;refine Xs ?_;refine Xq Bv ?_;refine ⟨_,rfl,?_⟩
    refine Y0<|Ct<|Y1<|Wm<|Wm<|Wm ?_;refine Wq AD ?_;refine Wq AQ ?_;refine Wq (Cl (ao rfl) (Ad rfl) (Ad rfl) rfl rfl rfl rfl rfl) ?_;(refine Ap ?_);refine Wa<|Y0<|Y1<|Wm ?_;refine Wq Cq ?_;refine Wa<|Y0<|BT<|BC<|BD ?_
    refine ALoop.next ((P.length-i)+(Q.length-(k+1))) (by omega) ⟨i,k+1,R++[AM Q k],by omega,by omega,?_,by simp;omega,rfl,rfl⟩ ?_
    .rw [hdQ,hp,Hf] at heq
     rw [<-heq,hp,Hf];simp
    .exact AZ (by exact Yd<|Yd<|FrLe.cons rfl (AVle.own rfl)<|Yd<|Yd<|FrLe.nil) (by refine HpLe.cons (CI (Dd GW R (AM Q k))) ?_;exact HpLe.nil)
   .refine Ae<|Y1<|Wm<|Wm ?_;refine Wq Bb ?_;refine Wq AA ?_;refine Wm ?_;refine Wg Ah ?_;refine Wg Ah ?_;refine Wg Bb ?_;refine Wg AA ?_;refine Wq Ba ?_;refine Y0<|Cf<|BT<|BC<|BL<|BD<|Yn<|Y1<|Wm<|Wa<|Y0<|Ar ?_
    have hq:Q.drop k=[]:=List.drop_eq_nil_of_le (by omega)
    exact BG (Rets.of1 (ResV.tmp rfl rfl) (BK (by rw [<-heq,hp,hq,Hf,List.append_nil];rfl)))
theorem MP(c:Rat)(m:Nat->Int)(P:List Tm)(hc:c=0):Abs Tryz.prog 68 [BX (CL c),BX (BW m),Bw P] (Fm [Bw [],ex (.int .i64 0)]):=by
 have hs:=Co.2 hc
 refine Ab Tryz.func68 λs0=>?_
 rw [Tryz.ntmps68]
 apply Y1;refine Bx ?_;refine Bx ?_;refine Wa<|Wa<|Y0<|Y1 ?_;refine LF (Ad rfl) (Ad rfl) rfl rfl rfl rfl rfl ?_;refine Wa<|Y0<|Ae<|Y1 ?_;refine Wq AO ?_;refine Wq (Aq (Et c)) ?_;refine Wq AL ?_;refine Y0<|Ct<|Y1<|Wa<|Wa<|Y0<|Ar<|Az ?_
 exact BG (Ea (ResV.tmp rfl rfl) (ResV.tmp rfl rfl) (DA (HV) (D.le.refl _)))
theorem JG(c:Rat)(m:Nat->Int)(P:List Tm)(N M:Nat)(hc:c≠0)(hcs:RSz c N)(hm:In8 m 0 65535)(hP:PSz P M)(hPi:PIn P 0 65535)(hmP:∀t∈P,In8 (AP m t.m) 0 65535)(hn:P.length<=100000)(hNM:N+M<=4398046511103):Abs Tryz.prog 68 [BX (CL c),BX (BW m),Bw P] (Fm [Bw (Nr c m P),ex (.int .i64 0)]):=by
 have hs:c.num.sign≠0:=λe=>hc (Co.1 e)
 refine Ab Tryz.func68 λs0=>?_
 rw [Tryz.ntmps68]
 apply Y1;refine Bx ?_;refine Bx ?_;refine Wa<|Wa<|Y0<|Y1 ?_;refine LF (Ad rfl) (Ad rfl) rfl rfl rfl rfl rfl ?_;refine Wa<|Y0<|Ae<|Y1 ?_;refine Wq AO ?_;refine Wq (Aq (Et c)) ?_;refine Wq AA ?_;refine Y0<|Cf<|Ys<|Ae<|Y1<|Wa<|Y0<|AWp.block ?_
 refine CA (λmz σ=>∃k,k<=P.length/\mz=P.length-k/\σ=⟨[(2,.d (Bw P)),(3,.ptr 0 0),(4,.ptr 1 0),(8,.own 2),(9,.d (ex (.int .i64 (k:Nat))))],[.var 29 ((CL c).map .d),.var 31 ((BW m).map .d),.row 33 12 ((Nr c m (P.take k)).map GW)]⟩) ?le ⟨0,by omega,rfl,rfl⟩ ?round
 case le=>exact AZ (by exact Yd<|Yp<|Yp<|FrLe.cons rfl (AVle.own rfl)<|Yd<|FrLe.nil) (by exact Yv<|Yv<|Yr<|HpLe.nil)
 case round=>
  rintro mz _ ⟨k,hk,rfl,rfl⟩
  by_cases hlt:k<P.length
  .have ht:=Dc hlt
   have htk:=Fd hlt
   refine Ae<|Y1<|Wm<|Wm ?_;refine Wq Bb ?_;refine Wq AL ?_;refine Y0<|Ct<|Ys<|Ae<|AWp.block<|Ae ?_
   refine LG (Hv (e:=9) (by kernel_rfl) (K4 (K4 (AddE.keep (AddE.keep (AddE.keep (AddE.add (AddE.keep AddE.nil))))))) (by kernel_rfl)) [[],[],[],[(24,1),(25,2)],[(26,3)],[(27,4)],[(23,0),(28,5)],[(29,6)],[(22,7)],[(22,7)],[]] [[],[],[],[1,2],[1,2,3],[1,2,3,4],[0,1,2,3,4,5],[0,1,2,3,4,5,6],[0,1,2,3,4,5,6,7],[0,1,2,3,4,5,6,7],[]] rfl (by kernel_rfl) (by kernel_rfl) (by kernel_rfl) ?_
   refine Xq AO ?_;refine Xq Ah ?_;refine Xq Ah ?_;refine Xq AD ?_;refine Xq Bd ?_;refine Xq AQ ?_;refine Xq (Aq (QN m (AM P k).m hm (hPi _ ht) (hmP _ ht))) ?_;refine Xq Ah ?_;refine Xq Gf ?_;refine Xq Gf ?_;refine Xn ?_;refine ⟨_,rfl,?_⟩
   refine Sf ?_;refine Wa<|AWl.nil ?_;apply OnlyN.mk';refine Yn<|Ae<|Y1<|Wm ?_;refine Wq AA ?_;refine Y0<|Cf<|Ys ?_
   refine Dr [[],[],[],[],[(36,2),(37,3)],[(38,4)],[(39,5)],[(35,1),(40,6)],[],[(41,7),(42,8)],[(43,9)]] [[],[],[],[],[2,3],[2,3,4],[2,3,4,5],[1,2,3,4,5,6],[],[1,2,3,4,5,6,7,8],[1,2,3,4,5,6,7,8,9]] ?_
   refine Xq Ah ?_;refine Xq AO ?_;refine Xq Ah ?_;refine Xq Ah ?_;refine Xq AD ?_;refine Xq Bd ?_;refine Xq Ge ?_;refine Xq (Aq (Su c (AM P k).c N M hcs (hP _ ht) hNM)) ?_;refine Xq AO ?_;(refine Hq rfl ?_;refine CW (Ad rfl) rfl rfl rfl ?_;(repeat ((first | refine ⟨_,Ck (ah rfl),?_⟩ | refine ⟨_,Po rfl,?_⟩);refine ⟨_,rfl,?_⟩));refine ⟨_,rfl,?_⟩;refine ⟨_,rfl,?_⟩);(refine Xq (Cl (ah rfl) (Ad rfl) (Ad rfl) rfl rfl rfl rfl rfl) ?_);refine ⟨_,rfl,?_⟩
   (refine Ap ?_);refine Wa<|AWl.nil<|AE<|Yn<|AWp.region<|Wm ?_;refine Wq Cq ?_;refine Wa<|AWl.nil ?_
   refine ALoop.next (P.length-(k+1)) (by omega) ⟨k+1,by omega,rfl,rfl⟩ ?_
   exact AZ (by exact Yd<|Yp<|Yp<|FrLe.cons rfl (AVle.own rfl)<|Yd<|FrLe.nil) (by apply Yv;apply Yv;(refine HpLe.cons (CI ((Dd GW _ ⟨c*(AM P k).c,AP m (AM P k).m⟩).trans (by rw [<-htk];simp [Nr]))) ?_);exact HpLe.nil)
  .obtain rfl:k=P.length:=by omega
   refine Ae<|Y1<|Wm<|Wm ?_;refine Wq Bb ?_;refine Wq AA ?_;refine Y0<|Cf<|BT<|BC<|BL<|BD<|Yn<|Y1<|Wm<|Wa<|Wa<|Y0<|Ar ?_
   exact BG (Ea (ResV.tmp rfl rfl) (ResV.tmp rfl rfl) (DA (BK (by rw [List.take_length];rfl)) (D.le.refl _)))
def IS(c:Rat)(P:List Tm):List Tm:=if c=0 then [] else Nr c (λ_=>0) P
theorem Oq(c:Rat)(P:List Tm)(N M:Nat)(hcs:RSz c N)(hP:PSz P M)(hPi:PIn P 0 65535)(hn:P.length<=100000)(hNM:N+M<=4398046511103):Abs Tryz.prog 45 [BX (CL c),Bw P] (Bw (IS c P)):=by
 by_cases hc:c=0
 .refine Ab Tryz.func45 λs0=>?_
  rw [Tryz.ntmps45]
  apply Y1;refine Bx ?_;refine Wa<|Y0<|Y1 ?_;refine Wq AO ?_;(refine By rfl rfl ?_;(refine LE (Ad rfl) (Ad rfl) rfl rfl ?_;(repeat ((first | refine ⟨_,Ck (ao rfl),?_⟩ | refine ⟨_,Po rfl,?_⟩);refine ⟨_,rfl,?_⟩));refine ⟨_,rfl,?_⟩));refine Wm ?_;refine Wq (Aq (MP c (λ_=>0) P hc)) ?_;refine Wm ?_;refine Wq Gf ?_;refine Wq Gf ?_;refine Wa<|Wa<|Y0<|Y1<|Wm<|Wa<|Y0<|Ar ?_
  exact BG (Rets.of1 (ResV.tmp rfl rfl) (EH (by rw [IS,if_pos hc])))
 .refine Ab Tryz.func45 λs0=>?_
  rw [Tryz.ntmps45]
  apply Y1;refine Bx ?_;refine Wa<|Y0<|Y1 ?_;refine Wq AO ?_;(refine By rfl rfl ?_;(refine LE (Ad rfl) (Ad rfl) rfl rfl ?_;(repeat ((first | refine ⟨_,Ck (ao rfl),?_⟩ | refine ⟨_,Po rfl,?_⟩);refine ⟨_,rfl,?_⟩));refine ⟨_,rfl,?_⟩));refine Wm ?_;refine Wq (Aq (JG c (λ_=>0) P N M hc hcs In8.zero hP hPi (λt ht=>by rw [JW];exact hPi t ht) hn hNM)) ?_;refine Wm ?_;refine Wq Gf ?_;refine Wq Gf ?_;refine Wa<|Wa<|Y0<|Y1<|Wm<|Wa<|Y0<|Ar ?_
  exact BG (Rets.of1 (ResV.tmp rfl rfl) (EH (by rw [IS,if_neg hc])))
theorem OW{c:Rat}{m:Nat->Int}{P:List Tm}{N M:Nat}(hc:RSz c N)(hP:PSz P M):PSz (Nr c m P) (N+M):=λt ht=>by
 obtain ⟨s,hs,rfl⟩:=List.mem_map.1 ht
 exact hc.mul (hP s hs)
theorem RE{c:Rat}{P:List Tm}{N M:Nat}(hc:RSz c N)(hP:PSz P M):PSz (IS c P) (N+M):=by
 unfold IS
 split
 .intro t ht;cases ht
 .exact OW hc hP
theorem LQ(c:Rat)(P:List Tm):(IS c P).length<=P.length:=by
 unfold IS
 split<;>simp
theorem Nz{x:Int}(h0:-1000<=x)(h1:x<=1000):RSz ((x:Int):Rat) 1:=by
 refine ⟨?_,?_⟩
 .show (Af (x:Int).natAbs).length<=1
  exact Fi (by simp only [BB,Nat.pow_one];omega)
 .show (Af 1).length<=1
  exact Fi (by simp only [BB,Nat.pow_one];omega)
theorem Sq(P Q:List Tm)(N M:Nat)(hP:PSz P N)(hQ:PSz Q M)(hQi:PIn Q 0 65535)(hNM:N+M+2<=4398046511103)(hn:P.length+Q.length<=100000):Abs Tryz.prog 20 [Bw P,Bw Q] (Bw (Dq P (IS (-1:Int) Q))):=by
 have h1:RSz ((-1:Int):Rat) 1:=Nz (by omega) (by omega)
 have hl:=LQ (-1:Int) Q
 refine Ab Tryz.func20 λs0=>?_
 rw [Tryz.ntmps20]
 refine Y1<|Wa<|Y0<|Y1<|Wm ?_;refine Wq (Aq (Fy (-1) (by omega) (by omega))) ?_;refine Wm ?_;refine Wq (Aq (Oq (-1:Int) Q 1 M h1 hQ hQi (by omega) (by omega))) ?_;refine Wq (Aq (MU P (IS (-1:Int) Q) N (1+M) hP (RE h1 hQ) (by omega) (by omega))) ?_;refine Wa<|Y0<|Ar ?_
 exact Yf
theorem Canon.nil:Canon []:=⟨List.Pairwise.nil,λt h=>by cases h⟩
theorem Hx{t:Tm}(h:t.c≠0):Canon [t]:=⟨List.pairwise_singleton _ _,λu hu=>by rw [List.mem_singleton.1 hu];exact h⟩
theorem Hg{N M:Nat}:∀{P Q:List Tm},PSz P N->PSz Q M->PSz (Dq P Q) (N+M+1)
 | [],Q,_,h=>by simp only [Dq];exact h.mono (by omega)
 | s::P,[],h,_=>by simp only [Dq];exact h.mono (by omega)
 | s::P,t::Q,hP,hQ=>by
  have hP':PSz P N:=λu hu=>hP u (by simp [hu])
  have hQ':PSz Q M:=λu hu=>hQ u (by simp [hu])
  have con:∀{x:Tm} {L:List Tm},RSz x.c (N+M+1)->PSz L (N+M+1)->PSz (x::L) (N+M+1):=λh1 h2 u hu=>by
   rcases List.mem_cons.1 hu with rfl | hu
   .exact h1
   .exact h2 u hu
  rw [Dq]
  split
  .exact con ((hP s (by simp)).mono (by omega)) (Hg hP' hQ)
  .split
   .exact con ((hQ t (by simp)).mono (by omega)) (Hg hP hQ')
   .split
    .exact Hg hP' hQ'
    .exact con ((hP s (by simp)).add (hQ t (by simp))) (Hg hP' hQ')
termination_by P Q=>P.length+Q.length
theorem Tp{P Q:List Tm}{a b:Int}(hP:PIn P a b)(hQ:PIn Q a b):PIn (Dq P Q) a b:=λu hu=>by
 rcases EQ P Q u hu with ⟨s,hs,e⟩ | ⟨s,hs,e⟩
 .rw [<-e];exact hP s hs
 .rw [<-e];exact hQ s hs
theorem SameL.symm:∀{P Q:List Tm},SameL P Q->SameL Q P
 | [],[],_=>trivial
 | _::_,_::_,h=>⟨h.1.symm,h.2.1.symm,SameL.symm h.2.2⟩
 | [],_::_,h=>h.elim
 | _::_,[],h=>h.elim
structure PB(P:List Tm)(n N:Nat)(d:Int):Prop where
 can:Canon P
 len:P.length<=n
 sz:PSz P N
 ex:PIn P 0 d
theorem PB.mono{P:List Tm}{n N n' N':Nat}{d d':Int}(h:PB P n N d)(h1:n<=n')(h2:N<=N')(h3:d<=d'):PB P n' N' d':=⟨h.can,Nat.le_trans h.len h1,h.sz.mono h2,h.ex.mono (Int.le_refl _) h3⟩
theorem PB.nil{n N:Nat}{d:Int}:PB [] n N d:=⟨Canon.nil,Nat.zero_le _,λt h=>(by cases h),λt h=>(by cases h)⟩
theorem PB.add{P Q:List Tm}{n N n' N':Nat}{d d':Int}(h:PB P n N d)(k:PB Q n' N' d'):PB (Dq P Q) (n+n') (N+N'+1) (max d d'):=
 ⟨DO h.can k.can,by have:=Fq P Q;have:=h.len;have:=k.len;omega,Hg h.sz k.sz,Tp (h.ex.mono (Int.le_refl _) (by omega)) (k.ex.mono (Int.le_refl _) (by omega))⟩
def neg(P:List Tm):List Tm:=P.map (fT λq=>-q)
theorem PA{f:Tm->Tm}{P:List Tm}(h:SN P)(hf:∀s∈P,∀t∈P,0<lx s.m t.m->0<lx (f s).m (f t).m):SN (P.map f):=by
 refine List.pairwise_map.2 (List.Pairwise.imp_of_mem (λ{a b} ha hb hab=>hf a ha b hb hab) h)
theorem Qe{P:List Tm}(h:Canon P):Canon (neg P):=⟨PA h.1 λ_ _ _ _ h=>h,λt ht=>by
 obtain ⟨s,hs,rfl⟩:=List.mem_map.1 ht
 intro e
 have e:-s.c=0:=e
 exact h.2 s hs (by grind)⟩
theorem PB.neg {P : List Tm} {n N : Nat} {d : Int} (h : PB P n N d) : PB (neg P) n N d := ⟨Qe h.can, by rw [Go.Proofs.YtclmdofdjbdfiaaGreat.neg, List.length_map]; exact h.len, fun t ht => by
 obtain ⟨s,hs,rfl⟩:=List.mem_map.1 ht
 exact (h.sz s hs).neg,λt ht=>by
 obtain ⟨s,hs,rfl⟩:=List.mem_map.1 ht
 exact h.ex s hs⟩
theorem KV(f:(Nat->Int)->Rat):∀P:List Tm,dot f (neg P) = -dot f P
 | []=>by simp [neg,dot]
 | t::P=>by
  have:=KV f P
  simp only [neg,List.map_cons,dot,fT] at this ⊢
  rw [this];grind
def PZ(P Q:List Tm):List Tm:=Dq P (neg Q)
theorem PB.sub{P Q:List Tm}{n N n' N':Nat}{d d':Int}(h:PB P n N d)(k:PB Q n' N' d'):PB (PZ P Q) (n+n') (N+N'+1) (max d d'):=h.add k.neg
theorem NE{a b:Rat}(ha:a≠0)(hb:b≠0):a*b≠0:=λe=>by
 rcases Rat.mul_eq_zero.1 e with h | h
 .exact ha h
 .exact hb h
theorem PN{c:Rat}{m:Nat->Int}{P:List Tm}(hc:c≠0)(h:Canon P):Canon (Nr c m P):=⟨PA h.1 λs _ t _ h=>by
 show 0<lx (AP m s.m) (AP m t.m)
 rwa [KF m,KF m,Uu],λt ht=>by
 obtain ⟨s,hs,rfl⟩:=List.mem_map.1 ht
 exact NE hc (h.2 s hs)⟩
theorem PD{a b:Nat->Int}{d e:Int}(ha:In8 a 0 d)(hb:In8 b 0 e):In8 (AP a b) 0 (d+e):=λi hi=>by
 have:=ha i hi
 have:=hb i hi
 simp only [AP]
 omega
theorem Rx{t:Tm}{P:List Tm}{n N N0:Nat}{d d0:Int}(h:PB P n N d)(hc:t.c≠0)(hs:RSz t.c N0)(hm:In8 t.m 0 d0):PB (Nr t.c t.m P) n (N0+N) (d0+d):=
 ⟨PN hc h.can, by rw [Nq]; exact h.len, OW hs h.sz, fun u hu => by
  obtain ⟨s,hs,rfl⟩:=List.mem_map.1 hu
  exact PD hm (h.ex s hs)⟩
def GD(A P Q:List Tm):List Tm:=P.foldl (λa s=>Dq a (Nr s.c s.m Q)) A
def JP(P Q:List Tm):List Tm:=GD [] P Q
theorem Ja{Q:List Tm}{n' N' N:Nat}{d d':Int}(hQ:PB Q n' N' d'):∀{P A:List Tm} {k K:Nat},(∀t∈P,t.c≠0)->PSz P N->PIn P 0 d->PB A k K (d+d')->PB (GD A P Q) (k+P.length*n') (K+P.length*(N+N'+1)) (d+d')
 | [],A,k,K,_,_,_,h=>by simpa [GD] using h
 | t::P,A,k,K,h1,h2,h3,h=>by
  have ht:=Rx (t:=t) (d0:=d) hQ (h1 t (by simp)) (h2 t (by simp)) (h3 t (by simp))
  have h4:PB (Dq A (Nr t.c t.m Q)) (k+n') (K+(N+N'+1)) (d+d'):=(h.add ht).mono (Nat.le_refl _) (by omega) (by omega)
  have:=Ja hQ (P:=P) (λu hu=>h1 u (by simp [hu])) (λu hu=>h2 u (by simp [hu])) (λu hu=>h3 u (by simp [hu])) h4
  refine this.mono ?_ ?_ (Int.le_refl _)
  .rw [List.length_cons,Nat.succ_mul];omega
  .rw [List.length_cons,Nat.succ_mul];omega
theorem Ko{Q:List Tm}:∀{P A:List Tm},Sim (GD A P Q) (A++EI P Q)
 | [],A=>by simp only [GD,EI,List.foldl_nil,List.flatMap_nil,List.append_nil];exact Sim.refl _
 | t::P,A=>by
  refine (Ko (P:=P) (A:=Dq A (Nr t.c t.m Q))).trans ?_
  refine ((EP _ _).append (Sim.refl _)).trans ?_
  simp only [EI,List.flatMap_cons,Nr,List.append_assoc]
  exact Sim.refl _
theorem IX(P Q:List Tm):Sim (JP P Q) (EI P Q):=Ko
theorem PB.mul{P Q:List Tm}{n N n' N':Nat}{d d':Int}(h:PB P n N d)(k:PB Q n' N' d')(h0:0<=d)(h0':0<=d'):PB (JP P Q) (n*n') (n*(N+N'+1)) (d+d'):=by
 have:=Ja (A:=[]) (k:=0) (K:=0) (d:=d) k h.can.2 h.sz h.ex PB.nil
 refine this.mono ?_ ?_ (Int.le_refl _)
 .rw [Nat.zero_add];exact Nat.mul_le_mul_right _ h.len
 .rw [Nat.zero_add];exact Nat.mul_le_mul_right _ h.len
theorem LX{P Q:List Tm}(hP:Canon P)(hQ:Canon Q)(h:Sim P Q):Bw P=Bw Q:=Qa (Fw hP hQ h)
theorem Tj{P Q:List Tm}(h:Sim P Q):Sim (neg P) (neg Q):=λf hf=>by rw [KV,KV,h f hf]
theorem PB.same{P Q:List Tm}{n N:Nat}{d:Int}(h:PB P n N d)(hs:SameL P Q):PB Q n N d:=by
 have key:∀{P Q:List Tm},SameL P Q->∀t∈Q,∃s∈P,s.c=t.c/\Eqv s.m t.m:=by
  intro P
  induction P with
  | nil=>intro Q h t ht;cases Q with
   | nil=>cases ht
   | cons=>exact h.elim
  | cons s P ih=>intro Q h t ht;cases Q with
   | nil=>exact h.elim
   | cons u Q=>
    rcases List.mem_cons.1 ht with rfl | ht
    .exact ⟨s,by simp,h.1,h.2.1⟩
    .obtain ⟨x,hx,e⟩:=ih h.2.2 t ht
     exact ⟨x,by simp [hx],e⟩
 have dec:∀{P Q:List Tm},SameL P Q->SN P->SN Q:=by
  intro P
  induction P with
  | nil=>intro Q h _;cases Q with
   | nil=>exact List.Pairwise.nil
   | cons=>exact h.elim
  | cons s P ih=>intro Q h hd;cases Q with
   | nil=>exact h.elim
   | cons u Q=>
    have hd:=List.pairwise_cons.1 hd
    refine List.pairwise_cons.2 ⟨λt ht=>?_,ih h.2.2 hd.2⟩
    obtain ⟨x,hx,_,e⟩:=key h.2.2 t ht
    rw [<-Mk h.2.1 e]
    exact hd.1 x hx
 refine ⟨⟨dec hs h.can.1,λt ht=>?_⟩,by rw [<-hs.length];exact h.len,λt ht=>?_,λt ht=>?_⟩
 .obtain ⟨s,hs,e,_⟩:=key hs t ht
  rw [<-e];exact h.can.2 s hs
 .obtain ⟨s,hs,e,_⟩:=key hs t ht
  rw [<-e];exact h.sz s hs
 .obtain ⟨s,hs,_,e⟩:=key hs t ht
  intro i hi
  rw [<-e i hi];exact h.ex s hs i hi
theorem QB{c:Rat}{N:Nat}(h:RSz c N){d:Int}(hd:0<=d):PB (Dm c) 1 N d:=by
 unfold Dm
 split
 .exact PB.nil
 .rename_i hc
  refine ⟨Hx hc,by simp,λt ht=>by rw [List.mem_singleton.1 ht];exact h,λt ht=>by rw [List.mem_singleton.1 ht];exact λi hi=>⟨Int.le_refl _,hd⟩⟩
theorem Ri{t:Tm}{N:Nat}{d:Int}(h:t.c≠0)(hs:RSz t.c N)(hm:In8 t.m 0 d):PB [t] 1 N d:=⟨Hx h,by simp,λu hu=>by rw [List.mem_singleton.1 hu];exact hs,λu hu=>by rw [List.mem_singleton.1 hu];exact hm⟩
theorem Rw{i:Nat}:In8 (Ex i) 0 1:=λj _=>by
 unfold Ex Nw
 split
 .omega
 .exact ⟨Int.le_refl _,(by show (0:Int)<=1;omega)⟩
theorem NQ{P Q A:List Tm}{k:Nat}(h:k<P.length):GD A (P.take (k+1)) Q=Dq (GD A (P.take k) Q) (Nr (AM P k).c (AM P k).m Q):=HI (λa s=>Dq a (Nr s.c s.m Q)) A h
theorem JR{P Q:List Tm}{n N n' N':Nat}{d d':Int}(h:PB P n N d)(hQ:PB Q n' N' d')(h0:0<=d)(h0':0<=d')(k:Nat):PB (GD [] (P.take k) Q) (n*n') (n*(N+N'+1)) (d+d'):=by
 have:=Ja (A:=[]) (k:=0) (K:=0) (d:=d) (P:=P.take k) hQ (λt ht=>h.can.2 t (List.mem_of_mem_take ht)) (λt ht=>h.sz t (List.mem_of_mem_take ht)) (λt ht=>h.ex t (List.mem_of_mem_take ht)) PB.nil
 have hl:(P.take k).length<=n:=Nat.le_trans (by rw [List.length_take];omega) h.len
 refine this.mono ?_ ?_ (Int.le_refl _)
 .rw [Nat.zero_add];exact Nat.mul_le_mul_right _ hl
 .rw [Nat.zero_add];exact Nat.mul_le_mul_right _ hl
theorem Sr{P Q:List Tm}{n N n' N':Nat}{d d':Int}(hP:PB P n N d)(hQ:PB Q n' N' d')(h0:0<=d)(h0':0<=d')(hd:d+d'<=65535)(hn0:n<=100000)(hn:n*n'+n'<=100000)(hN:n*(N+N'+1)+N+N'+1<=4398046511102):Abs Tryz.prog 46 [Bw P,Bw Q] (Fm [Bw (JP P Q),ex (.int .i64 0)]):=by
 have hPl:=hP.len
 have hQl:=hQ.len
 refine Ab Tryz.func46 λs0=>?_
 rw [Tryz.ntmps46]
 repeat (first | apply Ae | apply AWp.region | (apply Vl;refine LF (Ad rfl) (Ad rfl) rfl rfl rfl rfl rfl ?_) | (refine By rfl rfl ?_;(apply AH;refine ⟨_,AC (ao rfl),?_⟩)) | apply AWl.nil | apply Yn | apply AWp.block)
 refine CA (λmz σ=>∃k,k<=P.length/\mz=P.length-k/\σ=⟨[(0,.d (Bw P)),(1,.d (Bw Q)),(6,.d (Bw (GD [] (P.take k) Q))),(7,.d (ex (.int .i64 (k:Nat))))],[]⟩) ?le ⟨0,by omega,rfl,rfl⟩ ?round
 case le=>exact AZ (by repeat (first | exact FrLe.nil | refine Yd ?_ | refine FrLe.cons rfl (Rp rfl (D.le.refl _)) ?_)) (by repeat (exact HpLe.nil))
 case round=>
  rintro mz _ ⟨k,hk,rfl,rfl⟩
  by_cases hlt:k<P.length
  .have ht:=Dc hlt
   have hm:=hP.ex _ ht
   have hb:=JR hP hQ h0 h0' k
   have hbl:=hb.len
   have ht2:=Rx (t:=AM P k) hQ (hP.can.2 _ ht) (hP.sz _ ht) hm
   have ht2l:=ht2.len
   repeat (first | apply Ae | apply AWp.region | (refine By rfl rfl ?_;first | (apply Bc;refine ⟨_,AF (ao rfl),?_⟩) | (apply Ef;refine ⟨_,DH rfl (Ad rfl),?_⟩) | (apply BE;refine ⟨_,BV rfl (ao rfl) (ao rfl) (by first | (simp only [AG,List.length_cons,List.length_nil];omega) | (simp [AG];done) | (simp [AG];omega)),?_⟩)) | apply AWl.nil | apply Yn | apply AWp.block | apply Bg | (apply Bi;refine Ct ?_))
   refine LG (Hv (e:=14) (by kernel_rfl) (K4 (K4 (K4 (AddE.keep (AddE.keep (AddE.keep (AddE.add (AddE.keep AddE.nil)))))))) (by kernel_rfl)) [[],[],[(18,0),(19,1)],[(20,2)],[(21,3)],[],[],[(23,5),(24,6)],[(25,7)],[(26,8)],[],[(22,4),(27,9),(28,10)],[(29,11)],[(17,12)],[(17,12)]] [[],[],[0,1],[0,1,2],[0,1,2,3],[],[],[5,6],[5,6,7],[5,6,7,8],[],[0,1,2,3,4,5,6,7,8,9,10],[0,1,2,3,4,5,6,7,8,9,10,11],[0,1,2,3,4,5,6,7,8,9,10,11,12],[0,1,2,3,4,5,6,7,8,9,10,11,12]] rfl (by kernel_rfl) (by kernel_rfl) (by kernel_rfl) ?_
   repeat (first | refine ⟨_,rfl,?_⟩ | (apply DI;(refine Xq (AF (ah rfl)) ?_)) | (apply Hu;first | (refine Xq (Ce (ah rfl) (Ad rfl) rfl rfl) ?_) | (refine Xq (DR (ah rfl) (Ad rfl) rfl rfl) ?_)) | (apply DK;(refine Xq (CH (ah rfl) (Ad rfl) rfl (Ad rfl) rfl rfl) ?_)) | (apply DJ;(refine Xq (BA rfl (ah rfl) (Ad rfl) (Ad rfl) rfl (by first | omega | (simp;omega))) ?_)) | (apply UM;(refine Xq (Ly (ah rfl) rfl) ?_)) | (apply Gg;(refine Xq (Ak (ah rfl) (JG (AM P k).c (AM P k).m Q N N' (hP.can.2 _ ht) (hP.sz _ ht) (hm.mono (Int.le_refl _) (by omega)) hQ.sz (hQ.ex.mono (Int.le_refl _) (by omega)) (λt h=>(PD hm (hQ.ex t h)).mono (Int.le_refl _) hd) (by omega) (by omega)) (by first | ((repeat (first | exact ArgsLe.nil | refine ArgsLe.cons rfl (D.le.refl _) ?_ | refine ArgsLe.cons rfl Ai ?_));done) | fail)) ?_)))
   repeat (first | apply Ae | apply AWp.region | (refine By rfl rfl ?_;first | (apply Bc;refine ⟨_,AF (ao rfl),?_⟩) | (apply AH;refine ⟨_,AC (ao rfl),?_⟩) | (apply JK;refine ⟨_,Gx (ao rfl) (ao rfl) (by omega),?_⟩) | (apply BE;refine ⟨_,Cc rfl (ao rfl) (ao rfl) (by first | (simp only [AG,List.length_cons,List.length_nil];omega) | (simp [AG];done) | (simp [AG];omega)),?_⟩) | (apply AT;refine ⟨_,Ak (ao rfl) (MU (GD [] (P.take k) Q) (Nr (AM P k).c (AM P k).m Q) (n*(N+N'+1)) (N+N') hb.sz ht2.sz (by omega) (by omega)) (by first | ((repeat (first | exact ArgsLe.nil | refine ArgsLe.cons rfl (D.le.refl _) ?_ | refine ArgsLe.cons rfl Ai ?_));done) | fail),?_⟩)) | apply OnlyN.mk' | apply AWl.nil | apply Yn | apply Bg | apply AE | (apply Bi;refine Cf ?_))
   refine ALoop.next (P.length-(k+1)) (by omega) ⟨k+1,by omega,rfl,rfl⟩ ?_
   exact AZ (by repeat (first | exact FrLe.nil | refine Yd ?_ | refine FrLe.cons rfl (AVle.le (EH (NQ hlt).symm)) ?_)) (by repeat (exact HpLe.nil))
  .obtain rfl:k=P.length:=by omega
   repeat (first | apply Ae | apply AWp.region | (refine By rfl rfl ?_;first | (apply Bc;refine ⟨_,AF (ao rfl),?_⟩) | (apply AH;refine ⟨_,AC (ao rfl),?_⟩) | (apply Ef;refine ⟨_,DH rfl (Ad rfl),?_⟩) | (apply BE;refine ⟨_,Cc rfl (ao rfl) (ao rfl) (by first | (simp only [AG,List.length_cons,List.length_nil];omega) | (simp [AG];done) | (simp [AG];omega)),?_⟩)) | apply AWl.nil | apply Yn | apply BT | apply Ar | apply BC | apply BD | apply BL | (apply Bi;refine Cf ?_))
   exact BG (Ea (ResV.tmp rfl rfl) (ResV.tmp rfl rfl) (DA (EH (by rw [List.take_length];rfl)) (D.le.refl _)))
theorem UD{P Q:List Tm}{n N n' N':Nat}{d d':Int}(hP:PB P n N d)(hQ:PB Q n' N' d')(h0:0<=d)(h0':0<=d')(hd:d+d'<=65535)(hn0:n<=100000)(hn:n*n'+n'<=100000)(hN:n*(N+N'+1)+N+N'+1<=4398046511102):Abs Tryz.prog 21 [Bw P,Bw Q] (Bw (JP P Q)):=by
 refine Ab Tryz.func21 λs0=>?_
 rw [Tryz.ntmps21]
 repeat (first | apply Ae | apply AWp.region | (refine By rfl rfl ?_;first | (apply Bc;refine ⟨_,AF (ao rfl),?_⟩) | (apply AH;refine ⟨_,AC (ao rfl),?_⟩) | (apply SK;refine ⟨_,Ly (ao rfl) rfl,?_⟩) | (apply AT;refine ⟨_,Ak (ao rfl) (Sr hP hQ h0 h0' hd hn0 hn hN) (by first | ((repeat (first | exact ArgsLe.nil | refine ArgsLe.cons rfl (D.le.refl _) ?_ | refine ArgsLe.cons rfl Ai ?_));done) | fail),?_⟩)) | apply AWl.nil | apply Yn | apply Ar)
 exact Yf
theorem Abs.le{P:Program}{f:FuncId}{ds:List D}{r r':D}(h:Abs P f ds r)(hr:D.le r r'):Abs P f ds r':=
 ⟨h.1,λs vs h1 h2 h3=>(h.2 s vs h1 h2 h3).mono λe w' ⟨v,he,s',hw,hl,hv⟩=>⟨v,he,s',hw,hl,hr _ _ hv⟩⟩
theorem PE{P Q:List Tm}{n N n' N':Nat}{d d':Int}(hP:PB P n N d)(hQ:PB Q n' N' d')(h0:0<=d)(h0':0<=d')(hd:d+d'<=65535)(hn:n*n'<=100000)(hN:N+N'+1<=10000000):Abs Tryz.prog 14 [Bw P,Bw Q] (Fm [Bw (JP P Q),ex (.int .i64 0)]):=
 (SF P Q N N' hP.sz hQ.sz d d' hP.ex hQ.ex hd h0 h0' (Nat.le_trans (Nat.mul_le_mul hP.len hQ.len) hn) hN).le λs v hv=>by
  obtain ⟨S,⟨h1,h2,_⟩,h3⟩:=hv
  have h3:(Fm [Bw S,ex (.int .i64 0)]).rel s v:=h3
  rwa [LX h1 (hP.mul hQ h0 h0').can (h2.trans (IX P Q).symm)] at h3
theorem PF{P Q:List Tm}{n N n' N':Nat}{d d':Int}(hP:PB P n N d)(hQ:PB Q n' N' d')(hn:n+n'<=100000)(hN:N+N'+1<=4398046511104):Abs Tryz.prog 15 [Bw P,Bw Q] (Bw (Dq P Q)):=
 SH P Q N N' hP.sz hQ.sz hN (Nat.le_trans (Nat.add_le_add hP.len hQ.len) hn)
theorem TT{P Q:List Tm}{n N n' N':Nat}{d d':Int}(hP:PB P n N d)(hQ:PB Q n' N' d')(hn:n+n'<=100000)(hN:N+N'+1<=4398046511104):Abs Tryz.prog 16 [Bw P,Bw Q] (Bw (PZ P Q)):=
 SD P Q N N' hP.sz hQ.sz hN (Nat.le_trans (Nat.add_le_add hP.len hQ.len) hn)
theorem LP{Q:List Tm}(hQ:Canon Q):SameL (IS (-1:Int) Q) (neg Q):=by
 rw [IS,if_neg (by decide)]
 induction Q with
 | nil=>trivial
 | cons t Q ih=>
  refine ⟨?_,λi _=>?_,ih ⟨(List.pairwise_cons.1 hQ.1).2,λu hu=>hQ.2 u (by simp [hu])⟩⟩
  .show ((-1:Int):Rat)*t.c = -t.c
   have:((-1:Int):Rat) = -1:=rfl
   rw [this];grind
  .show 0+t.m i=t.m i
   omega
theorem TN{P Q:List Tm}{n N n' N':Nat}{d d':Int}(hP:PB P n N d)(hQ:PB Q n' N' d')(hd:d'<=65535)(hn:n+n'<=100000)(hN:N+N'+2<=4398046511103):Abs Tryz.prog 20 [Bw P,Bw Q] (Bw (PZ P Q)):=by
 have hs:=LP hQ.can
 have hc:=(hQ.neg.same hs.symm).can
 exact (Sq P Q N N' hP.sz hQ.sz (hQ.ex.mono (Int.le_refl _) hd) hN (Nat.le_trans (Nat.add_le_add hP.len hQ.len) hn)).le (BK (LX (DO hP.can hc) (DO hP.can hQ.neg.can) ((EP _ _).trans (((Sim.refl P).append hs.sim).trans (EP _ _).symm))))
theorem Fz{P Q:List Tm}(h:SameL P Q):Abs Tryz.prog 10 [Bw P,Bw Q] (ex (.bool true)):=by
 have:=QX P Q
 rwa [GJ.2 h] at this
theorem QV{P Q:List Tm}(hP:Canon P)(hQ:Canon Q)(h:Sim P Q):Abs Tryz.prog 10 [Bw P,Bw Q] (ex (.bool true)):=Fz (Fw hP hQ h)
theorem Rg{P:List Tm}{n N:Nat}{d:Int}(h:PB P n N d)(hd:d<=65535)(hN:N<=1000000000)(hn:n<=1000000):Abs Tryz.prog 5 [Bw P] (ex (.bool true)):=Nf P N h.can (h.ex.mono (Int.le_refl _) hd) h.sz hN (Nat.le_trans h.len hn)
theorem Uq{m:Nat->Int}{d:Int}(h:In8 m 0 d):PB [⟨1,m⟩] 1 1 d:=Ri (show (1:Rat)≠0 by decide) (rsz_one) h
where rsz_one:RSz (1:Rat) 1:=Nz (x:=1) (by omega) (by omega)
def TB(P:List Tm):Int:=P.foldl (λd t=>max d (CE t.m 8)) (-1)
theorem Qy{P:List Tm}{k:Nat}(h:k<P.length):TB (P.take (k+1))=max (TB (P.take k)) (CE (AM P k).m 8):=HI (λd t=>max d (CE t.m 8)) (-1) h
theorem SG(P:List Tm)(hP:PIn P 0 65535)(hn:P.length<=1000000):Abs Tryz.prog 22 [Bw P] (ex (.int .i64 (TB P))):=by
 refine Ab Tryz.func22 λs0=>?_
 rw [Tryz.ntmps22]
 refine Y1<|Wa<|Y0<|Y1<|Wa<|Y0<|Ae<|Y1<|Wm ?_;refine Wq Bb ?_;refine Wm<|Y0<|AWp.block ?_
 refine CA (λmz σ=>∃k,k<=P.length/\mz=P.length-k/\σ=⟨[(3,.d (ex (.int .i64 (TB (P.take k))))),(6,.d (Bw P)),(7,.d (ex (.int .i64 (P.length:Nat)))),(8,.d (ex (.int .i64 (k:Nat))))],[]⟩) ?le ⟨0,by omega,rfl,rfl⟩ ?round
 case le=>exact AZ (by exact Yd<|Yd<|Yd<|Yd<|FrLe.nil) (by exact HpLe.nil)
 case round=>
  rintro mz _ ⟨k,hk,rfl,rfl⟩
  by_cases hlt:k<P.length
  .have hin:=hP _ (Dc hlt)
   have hst:=Qy hlt
   apply Y1;refine Wq AL ?_;refine Y0<|Ae<|Ct<|Ys<|Ae<|AWp.block<|Y1 ?_;refine Wq AD ?_;refine Wq AQ ?_;refine Al ?_;refine Sf ?_;refine Y0<|AWp.region<|Wm ?_;refine Wq AB ?_;refine Wq AO ?_;refine Wq (Aq (Mi (AM P k).m (hin.mono (by omega) (by omega)))) ?_;refine Wq UF ?_;refine Wa<|AWl.nil<|AE<|Yn<|AWp.region ?_;refine Wq Cq ?_;refine Wm<|AWl.nil ?_
   refine ALoop.next (P.length-(k+1)) (by omega) ⟨k+1,by omega,rfl,rfl⟩ ?_
   exact AZ (by exact FrLe.cons rfl (AVle.int hst.symm)<|Yd<|Yd<|Yd<|FrLe.nil) (by exact HpLe.nil)
  .obtain rfl:k=P.length:=by omega
   apply Y1;refine Wq AA ?_;refine Y0<|Ae<|Cf<|BT<|BC<|BL<|BD<|Yn<|Y1<|Wm<|Wa<|Y0<|Ar ?_
   exact BG (Rets.of1 (ResV.tmp rfl rfl) (BK (by rw [List.take_length])))
theorem OZ{P Q P' Q':List Tm}(h:Sim P P')(k:Sim Q Q'):Sim (PZ P Q) (P'++neg Q'):=(EP _ _).trans (h.append (Tj k))
theorem TE{P Q P' Q':List Tm}(h:Sim P P')(k:Sim Q Q'):Sim (Dq P Q) (P'++Q'):=(EP _ _).trans (h.append k)
theorem To{P Q P' Q':List Tm}(h:Sim P P')(k:Sim Q Q'):Sim (JP P Q) (EI P' Q'):=(IX _ _).trans (h.mul k)
theorem Of:Dm (1:Int)=[⟨1,λ_=>0⟩]:=by
 rw [Dm,if_neg (by decide)]
 rfl
theorem Tv(P:List Tm):Abs Tryz.prog 13 [Bw P,ex (.int .i64 0)] (Bw P):=by
 refine Ab Tryz.func13 λs0=>?_
 rw [Tryz.ntmps13]
 repeat (first | apply Ae | apply AWp.region | (refine By rfl rfl ?_;first | (apply Bc;refine ⟨_,AF (ao rfl),?_⟩) | (apply AH;refine ⟨_,AC (ao rfl),?_⟩) | (apply BE;refine ⟨_,Cc rfl (ao rfl) (ao rfl) (by first | (simp only [AG,List.length_cons,List.length_nil];omega) | (simp [AG];done) | (simp [AG];omega)),?_⟩)) | apply AWl.nil | apply Yn | apply Bg | apply Ar | (apply Bi;refine Cf ?_))
 exact Yf
def xT:Tm:=⟨1,Ex 0⟩
def yT:Tm:=⟨1,Ex 1⟩
def yyT:Tm:=⟨1*1,AP (Ex 1) (Ex 1)⟩
theorem KO(i:Nat):PB [⟨1,Ex i⟩] 1 1 1:=Uq Rw
theorem Tg:PB (Dm (1:Int)) 1 1 1:=QB (Nz (by omega) (by omega)) (by omega)
theorem Pm:JP [yT] [yT]=[yyT]:=by
 show Dq [] [yyT]=[yyT]
 rw [Hf]
theorem SV:Dq [xT] [yyT]=[xT,yyT]:=by
 rw [RO (show lx xT.m yyT.m=1 by decide),Hf]
theorem Ue:PB [yyT] 1 3 2:=by
 rw [<-Pm]
 exact (KO 1).mul (KO 1) (by omega) (by omega)
theorem Tf(i:Nat)(hi:i<8):-1000<=EW 255 i/\EW 255 i<=1000:=by
 unfold EW
 omega
theorem RT:Fj [EW 255] xT [yyT]=yyT:=by
 show SU [EW 255] xT yyT=yyT
 rw [SU,if_pos (by decide)]
theorem Ns:Sim (JP (Dq [xT] (Dm (1:Int))) (PZ [xT] (Dm (1:Int)))) (PZ (JP [xT] [xT]) (Dm (1:Int))):=by
 refine (To (TE (Sim.refl _) (Sim.refl _)) (OZ (Sim.refl _) (Sim.refl _))).trans (Sim.symm ((OZ (IX _ _) (Sim.refl _)).trans ?_))
 intro f hf
 rw [Of]
 simp only [EI,neg,fT,xT,List.map_cons,List.map_nil,List.flatMap_cons,List.flatMap_nil,List.cons_append,List.nil_append,dot]
 rw [KE,JW,KE]
 grind
theorem IT:Abs Tryz.prog 4 [] (ex (.bool true)):=by
 have hx:=KO 0
 have hy:=KO 1
 have h1:=Tg
 have ha:=hx.add h1
 have hs:=hx.sub h1
 have hm:=ha.mul hs (by omega) (by omega)
 have hxx:=hx.mul hx (by omega) (by omega)
 have hd:=hxx.sub h1
 have cyy:=PE hy hy (by omega) (by omega) (by omega) (by omega) (by omega)
 rw [show JP [⟨1,Ex 1⟩] [⟨1,Ex 1⟩]=[yyT] from Pm] at cyy
 have csum:=PF hx Ue (by omega) (by omega)
 rw [show Dq [⟨1,Ex 0⟩] [yyT]=[xT,yyT] from SV] at csum
 have clead := Rh xT [yyT] [EW 255] (fun r hr => by rw [List.mem_singleton.1 hr]; exact fun i hi => Tf i hi) ((show PIn [xT, yyT] 0 2 from fun t ht => by
  rcases List.mem_cons.1 ht with rfl | ht
  .exact (hx.ex _ (by simp [xT])).mono (by omega) (by omega)
  .exact Ue.ex t ht).mono (by omega) (by omega)) (by simp)
 rw [RT] at clead
 have csq:=QV hm.can hd.can Ns
 have cval:=Rg hm (by omega) (by omega) (by omega)
 refine Ab Tryz.func4 λs0=>?_
 rw [Tryz.ntmps4]
 have hyy:LH yyT.m (λi=>([0,2]:List Int).getD i 0)=true:=by decide
 repeat (first | refine Cs rfl rfl rfl rfl rfl ?_;refine ⟨_,Rd (a:=yyT.m) (b:=λi=>([0,2]:List Int).getD i 0) (ao rfl) (ao rfl) hyy,?_⟩ | apply Ae | apply AWp.region | (apply EG;refine Al ?_) | (apply EF;refine Sf ?_) | (refine By rfl rfl ?_;first | (apply Bc;refine ⟨_,AF (ao rfl),?_⟩) | (apply AH;refine ⟨_,AC (ao rfl),?_⟩) | (apply BE;refine ⟨_,Cc rfl (ao rfl) (ao rfl) (by first | (simp only [AG,List.length_cons,List.length_nil];omega) | (simp [AG];done) | (simp [AG];omega)),?_⟩) | (apply SK;refine ⟨_,Ly (ao rfl) rfl,?_⟩) | (apply BO;first | refine ⟨_,Cb (ao rfl) (ao rfl),?_⟩ | refine ⟨_,BF (ao rfl) (ao rfl),?_⟩) | (apply AT;first | refine ⟨_,Ak (ao rfl) (Ne 0 (by omega)) (by first | ((repeat (first | exact ArgsLe.nil | refine ArgsLe.cons rfl (D.le.refl _) ?_ | refine ArgsLe.cons rfl Ai ?_));done) | fail),?_⟩ | refine ⟨_,Ak (ao rfl) (Ne 1 (by omega)) (by first | ((repeat (first | exact ArgsLe.nil | refine ArgsLe.cons rfl (D.le.refl _) ?_ | refine ArgsLe.cons rfl Ai ?_));done) | fail),?_⟩ | refine ⟨_,Ak (ao rfl) (Fy 1 (by omega) (by omega)) (by first | ((repeat (first | exact ArgsLe.nil | refine ArgsLe.cons rfl (D.le.refl _) ?_ | refine ArgsLe.cons rfl Ai ?_));done) | fail),?_⟩ | refine ⟨_,Ak (ao rfl) (OM (1:Int)) (by first | ((repeat (first | exact ArgsLe.nil | refine ArgsLe.cons rfl (D.le.refl _) ?_ | refine ArgsLe.cons rfl Ai ?_));done) | fail),?_⟩ | refine ⟨_,Ak (ao rfl) (On 0 (by omega)) (by first | ((repeat (first | exact ArgsLe.nil | refine ArgsLe.cons rfl (D.le.refl _) ?_ | refine ArgsLe.cons rfl Ai ?_));done) | fail),?_⟩ | refine ⟨_,Ak (ao rfl) (MR 1 (by omega) (by omega)) (by first | ((repeat (first | exact ArgsLe.nil | refine ArgsLe.cons rfl (D.le.refl _) ?_ | refine ArgsLe.cons rfl Ai ?_));done) | fail),?_⟩ | refine ⟨_,Ak (ao rfl) (PF hx h1 (by omega) (by omega)) (by first | ((repeat (first | exact ArgsLe.nil | refine ArgsLe.cons rfl (D.le.refl _) ?_ | refine ArgsLe.cons rfl Ai ?_));done) | fail),?_⟩ | refine ⟨_,Ak (ao rfl) (TT hx h1 (by omega) (by omega)) (by first | ((repeat (first | exact ArgsLe.nil | refine ArgsLe.cons rfl (D.le.refl _) ?_ | refine ArgsLe.cons rfl Ai ?_));done) | fail),?_⟩ | refine ⟨_,Ak (ao rfl) (PE ha hs (by omega) (by omega) (by omega) (by omega) (by omega)) (by first | ((repeat (first | exact ArgsLe.nil | refine ArgsLe.cons rfl (D.le.refl _) ?_ | refine ArgsLe.cons rfl Ai ?_));done) | fail),?_⟩ | refine ⟨_,Ak (ao rfl) (Tv _) (by first | ((repeat (first | exact ArgsLe.nil | refine ArgsLe.cons rfl (D.le.refl _) ?_ | refine ArgsLe.cons rfl Ai ?_));done) | fail),?_⟩ | refine ⟨_,Ak (ao rfl) (cyy) (by first | ((repeat (first | exact ArgsLe.nil | refine ArgsLe.cons rfl (D.le.refl _) ?_ | refine ArgsLe.cons rfl Ai ?_));done) | fail),?_⟩ | refine ⟨_,Ak (ao rfl) (csum) (by first | ((repeat (first | exact ArgsLe.nil | refine ArgsLe.cons rfl (D.le.refl _) ?_ | refine ArgsLe.cons rfl Ai ?_));done) | fail),?_⟩ | refine ⟨_,Ak (ao rfl) (MT) (by first | ((repeat (first | exact ArgsLe.nil | refine ArgsLe.cons rfl (D.le.refl _) ?_ | refine ArgsLe.cons rfl Ai ?_));done) | fail),?_⟩ | refine ⟨_,Ak (ao rfl) (clead) (by first | ((repeat (first | exact ArgsLe.nil | refine ArgsLe.cons rfl (D.le.refl _) ?_ | refine ArgsLe.cons rfl Ai ?_));done) | fail),?_⟩ | refine ⟨_,Ak (ao rfl) (Sw) (by first | ((repeat (first | exact ArgsLe.nil | refine ArgsLe.cons rfl (D.le.refl _) ?_ | refine ArgsLe.cons rfl Ai ?_));done) | fail),?_⟩ | refine ⟨_,Ak (ao rfl) (OL []) (by first | ((repeat (first | exact ArgsLe.nil | refine ArgsLe.cons rfl (D.le.refl _) ?_ | refine ArgsLe.cons rfl Ai ?_));done) | fail),?_⟩ | refine ⟨_,Ak (ao rfl) (UD hx hx (by omega) (by omega) (by omega) (by omega) (by omega) (by omega)) (by first | ((repeat (first | exact ArgsLe.nil | refine ArgsLe.cons rfl (D.le.refl _) ?_ | refine ArgsLe.cons rfl Ai ?_));done) | fail),?_⟩ | refine ⟨_,Ak (ao rfl) (TN hxx h1 (by omega) (by omega) (by omega)) (by first | ((repeat (first | exact ArgsLe.nil | refine ArgsLe.cons rfl (D.le.refl _) ?_ | refine ArgsLe.cons rfl Ai ?_));done) | fail),?_⟩ | refine ⟨_,Ak (ao rfl) (csq) (by first | ((repeat (first | exact ArgsLe.nil | refine ArgsLe.cons rfl (D.le.refl _) ?_ | refine ArgsLe.cons rfl Ai ?_));done) | fail),?_⟩)) | (refine Cs rfl rfl rfl rfl rfl ?_;first | (apply Bc;refine ⟨_,AF (ao rfl),?_⟩) | (apply AR;refine ⟨_,BR (ao rfl) rfl (Ad rfl) rfl rfl,?_⟩) | (apply Aj;refine ⟨_,Be (ao rfl) (Ad rfl) rfl (Ad rfl) rfl,?_⟩) | (apply BE;first | refine ⟨_,Cc rfl (ao rfl) (ao rfl) (by first | (simp only [AG,List.length_cons,List.length_nil];omega) | (simp [AG];done) | (simp [AG];omega)),?_⟩ | refine ⟨_,GR (ao rfl) (ao rfl) rfl,?_⟩) | (apply BN;refine ⟨_,Bu (ao rfl),?_⟩) | (apply SL;(refine LE (Ad rfl) (Ad rfl) rfl rfl ?_;(repeat ((first | refine ⟨_,Ck (ao rfl),?_⟩ | refine ⟨_,Po rfl,?_⟩);refine ⟨_,rfl,?_⟩));refine ⟨_,rfl,?_⟩)) | (apply AT;first | refine ⟨_,Ak (ao rfl) (On 0 (by omega)) (by first | ((repeat (first | exact ArgsLe.nil | refine ArgsLe.cons rfl (D.le.refl _) ?_ | refine ArgsLe.cons rfl Ai ?_));done) | fail),?_⟩ | refine ⟨_,Ak (ao rfl) (On 1 (by omega)) (by first | ((repeat (first | exact ArgsLe.nil | refine ArgsLe.cons rfl (D.le.refl _) ?_ | refine ArgsLe.cons rfl Ai ?_));done) | fail),?_⟩ | refine ⟨_,Ak (ao rfl) (Fz (SameL.refl [⟨1,Ex 0⟩])) (by first | ((repeat (first | exact ArgsLe.nil | refine ArgsLe.cons rfl (D.le.refl _) ?_ | refine ArgsLe.cons rfl Ai ?_));done) | fail),?_⟩ | refine ⟨_,Ak (ao rfl) (Fz (SameL.refl [⟨1,Ex 1⟩])) (by first | ((repeat (first | exact ArgsLe.nil | refine ArgsLe.cons rfl (D.le.refl _) ?_ | refine ArgsLe.cons rfl Ai ?_));done) | fail),?_⟩ | refine ⟨_,Ak (ao rfl) (Fz (SameL.refl (Dm (1:Int)))) (by first | ((repeat (first | exact ArgsLe.nil | refine ArgsLe.cons rfl (D.le.refl _) ?_ | refine ArgsLe.cons rfl Ai ?_));done) | fail),?_⟩ | refine ⟨_,Ak (ao rfl) (MR 1 (by omega) (by omega)) (by first | ((repeat (first | exact ArgsLe.nil | refine ArgsLe.cons rfl (D.le.refl _) ?_ | refine ArgsLe.cons rfl Ai ?_));done) | fail),?_⟩ | refine ⟨_,Ak (ao rfl) (cval) (by first | ((repeat (first | exact ArgsLe.nil | refine ArgsLe.cons rfl (D.le.refl _) ?_ | refine ArgsLe.cons rfl Ai ?_));done) | fail),?_⟩ | refine ⟨_,Ak (ao rfl) (SG [] (λt h=>(by cases h)) (by simp)) (by first | ((repeat (first | exact ArgsLe.nil | refine ArgsLe.cons rfl (D.le.refl _) ?_ | refine ArgsLe.cons rfl Ai ?_));done) | fail),?_⟩)) | apply AWl.nil | apply Yn | apply Bg | apply Ar | (apply Bi;refine Cf ?_))
 exact Yf
@[reducible] def kA(s:GS):Kd:=⟨λb t=>t=84\/∀k,s.S b k,λ_=>.inl rfl⟩
def aD(l:List Nat):D:=⟨λs v=>∃(A:Option Addr) (c:Nat),v = .slice A l.length c/\l.length<=c/\c<=9223372036854775807/\AI l/\(0<l.length->∃b o cs T fz,A=some ⟨b,o,none⟩/\s.w.heap[b]? = some (.cells cs T fz)/\(∀k,s.S b k)/\∀i,(hi:i<l.length)->cs[o+i]? = some (.int .u32 (l[i]:Nat))),
 λ⟨A,c,h1,h2,h3,h4,h5⟩ hc=>⟨A,c,h1,h2,h3,h4,λh0=>by
  obtain ⟨b,o,cs,T,fz,e1,e2,e3,e4⟩:=h5 h0
  obtain ⟨cs',fz',e5,e6⟩:=hc.cell b cs T fz e2
  exact ⟨b,o,cs',T,fz',e1,e5,λk=>hc.up _ _ (e3 k),λi hi=>(e6 _ (e3 _)).trans (e4 i hi)⟩⟩⟩
theorem Fl{s:GS}{v:Value}{l:List Nat}(h:(aD l).rel s v):@Words (kA s) s.w v l:=by
 obtain ⟨A,c,h1,h2,h3,h4,h5⟩:=h
 refine ⟨A,c,h1,h2,h3,h4,λh0=>?_⟩
 obtain ⟨b,o,cs,T,fz,e1,e2,e3,e4⟩:=h5 h0
 exact ⟨b,o,cs,fz,e1,⟨T,e2,.inr e3⟩,e4⟩
theorem IE{s s':GS}{v:Value}{l:List Nat}(hok:s'.Ok)(hle:GS.Le s s')(h:@Words (kA s) s'.w v l):(aD l).rel s' v:=by
 obtain ⟨A,c,h1,h2,h3,h4,h5⟩:=h
 refine ⟨A,c,h1,h2,h3,h4,λh0=>?_⟩
 obtain ⟨b,o,cs,fz,e1,⟨T,e2,e3⟩,e4⟩:=h5 h0
 refine ⟨b,o,cs,T,fz,e1,e2,λk=>?_,e4⟩
 rcases e3 with rfl | e3
 .exact hok.safe b k ⟨cs,fz,e2⟩
 .exact hle.up _ _ (e3 k)
theorem TG{s:GS}{v:Value}{l:List Nat}(h:(aD l).rel s v):∃A n c,v = .slice A n c:=by
 obtain ⟨A,c,h1,_⟩:=h
 exact ⟨A,_,c,h1⟩
theorem One.aD{hp:List Ow}{l:List Nat}:One hp (.d (Go.Proofs.YtclmdofdjbdfiaaGreat.aD l)):=λ_ _ _ v _ ⟨A,c,hv,_⟩=>by rw [hv];rfl
def EJ(z:Int):List D:=[ex (.bool (decide (z<0))),aD (Af z.natAbs)]
theorem Kw{s:GS}{v:Value}{z:Int}(h:(BX (EJ z)).rel s v):∃(b:Bool) (A:Option Addr) (n c:Nat),v = .agg #[.bool b,.slice A n c]/\@IsInt (kA s) s.w (.bool b) (.slice A n c) z:=by
 obtain ⟨u0,u1,rfl,h0,h1⟩:=Vu h
 obtain rfl:u0=_:=h0
 obtain ⟨A,n,c,rfl⟩:=TG h1
 exact ⟨_,A,n,c,rfl,rfl,Fl h1⟩
theorem Vn{s s':GS}{z:Int}{b:Bool}{A:Option Addr}{n c:Nat}(hok:s'.Ok)(hle:GS.Le s s')(h:@IsInt (kA s) s'.w (.bool b) (.slice A n c) z):(BX (EJ z)).rel s' (.agg #[.bool b,.slice A n c]):=by
 obtain ⟨h1,h2⟩:=h
 refine ⟨_,rfl,rfl,λk hk=>?_⟩
 have hk:k<2:=hk
 match k,hk with
 | 0,_=>exact ⟨_,rfl,rfl,h1⟩
 | 1,_=>exact ⟨_,rfl,rfl,IE hok hle h2⟩
def pA(x:Nat):D:=Pc (λ_:TypeId=>True) λT=>GT T [ex (.int .u32 (x:Nat))]
section
variable {P:Program} {hp:List Ow} {arg:Operand->AV} {dd:Option Tmp} {ty:TypeId} {ps:String} {af:Array Edge} {gd:Option (Nat×Bool)}
theorem Hs{x:Operand}{t:TypeId}{e n b:Nat}{z:Value}{l:List Nat}(hx:arg x = .d (aD l))(ht:Tab P t (.slice e) n b z):Quiet P hp ⟨dd,.call { callee:=.builtin .len,args:=#[x],argTypes:=#[t] },ty,ps,af,gd⟩ arg (.d (ex (.int .i64 (l.length:Nat)))):=by
 refine ⟨λbase s ρ ev hok hbs hhp h=>?_⟩
 have h1:=h x (by simp [Op.operands,Call.operands])
 rw [hx] at h1
 obtain ⟨A,c,e1,h2⟩:=h1
 refine BM (v:=.int .i64 l.length) ?_ ⟨GS.Le.refl s,rfl⟩
 simp [execOp,resolve,invoke,builtin,e1,Builtin.len_,run_underlying ht.und,goInt]
theorem HQ{x y:Operand}{t:TypeId}{e n b b' k:Nat}{d:TypeDesc}{z z':Value}{l:List Nat}{κ:IntKind}(hx:arg x = .d (aD l))(hy:arg y = .d (ex (.int κ ((k:Nat):Int))))(ht:Tab P t (.slice e) n b z)(he:Tab P e d 1 b' z')(hk:k<l.length):Quiet P hp ⟨dd,.indexAddr t x y,ty,ps,af,gd⟩ arg (.d (pA (l.getD k 0))):=by
 refine ⟨λbase s ρ ev hok hbs hhp h=>?_⟩
 have h1:=h x (by simp [Op.operands])
 have h2:=h y (by simp [Op.operands])
 rw [hx] at h1;rw [hy] at h2
 have e2:ev y = .int κ ((k:Nat):Int):=h2
 obtain ⟨A,c,e1,h3,h4,h5,h6⟩:=h1
 obtain ⟨g,p,cs,T,fz,rfl,h7,h8,h9⟩:=h6 (by omega)
 refine BM (v:=.pointer (some ⟨g,p+k*1,none⟩)) ?_ ⟨GS.Le.refl s,T,trivial,g,_,rfl,cs,fz,h7,λj hj=>?_⟩
 .have hb:k<l.length:=hk
  simp [execOp,e1,e2,Instr.indexAt,asIntOf,run_underlying ht.und,hb,he.run_size,Addr.add_lit]
 .obtain rfl:j=0:=by simpa using hj
  refine ⟨h8 _,_,by rw [Nat.mul_one,Nat.add_zero];exact h9 k hk,rfl,?_⟩
  show _=_
  simp [List.getD_eq_getElem?_getD,hk]
theorem OH{x:Operand}{t:TypeId}{d:TypeDesc}{n b k:Nat}{z:Value}(hx:arg x = .d (pA k))(ht:Tab P t d n b z)(hd:DL d=false):Quiet P hp ⟨dd,.load t x,ty,ps,af,gd⟩ arg (.d (ex (.int .u32 (k:Nat)))):=by
 refine ⟨λbase s ρ ev hok hbs hhp h=>?_⟩
 have h1:=h x (by simp [Op.operands])
 rw [hx] at h1
 obtain ⟨T,_,g,p,e1,h3⟩:=h1
 obtain ⟨u,h4,h5,h6⟩:=h3.cell (k:=0) (by simp)
 refine BM (v:=u) ?_ ⟨GS.Le.refl s,h6⟩
 simp at h4
 simp [execOp,e1,Instr.loadAt,Instr.sureAddr,loadVar,ht.run_agg,hd,h4]
theorem Eo{x:Operand}{t:TypeId}{e n b:Nat}{z:Value}{l:List Nat}(hx:arg x = .d (aD l):=by first | exact ao rfl | exact ah rfl)(ht:Tab P t (.slice e) n b z:=by exact (Ad rfl)):Quiet P hp ⟨dd,.call { callee:=.builtin .len,args:=#[x],argTypes:=#[t] },ty,ps,af,gd⟩ arg (.d (ex (.int .i64 (l.length:Nat)))):=Hs hx ht
end
theorem Mn{s:GS}{z:Int}{b:Bool}{A:Option Addr}{n c:Nat}(hok:s.Ok)(h:IsInt s.w (.bool b) (.slice A n c) z):(BX (EJ z)).rel s (.agg #[.bool b,.slice A n c]):=by
 obtain ⟨h1,A',c',h2,h3,h4,h5,h6⟩:=h
 have key:(aD (Af z.natAbs)).rel s (.slice A n c):=by
  refine ⟨A',c',h2,h3,h4,h5,λh0=>?_⟩
  obtain ⟨b,o,cs,fz,e1,e2,e4⟩:=h6 h0
  have e2:=e2.out
  exact ⟨b,o,cs,_,fz,e1,e2,λk=>hok.safe b k ⟨cs,fz,e2⟩,e4⟩
 refine ⟨_,rfl,rfl,λk hk=>?_⟩
 have hk:k<2:=hk
 match k,hk with
 | 0,_=>exact ⟨_,rfl,rfl,h1⟩
 | 1,_=>exact ⟨_,rfl,rfl,key⟩
theorem Tx(x y:Int)(hn:(Af x.natAbs).length<=4398046511104)(hn':(Af y.natAbs).length<=4398046511104):Abs Tryz.prog 51 [BX (EJ x),BX (EJ y)] (BX (EJ (Nat.gcd x.natAbs y.natAbs:Nat))):=by
 refine Bf (AN Tryz.func51 (by kernel_rfl) (by kernel_rfl)) λs vs hok hl hv=>?_
 rw [Rq hl]
 obtain ⟨x0,X0,n0,c0,e0,h0⟩:=Kw (hv 0 (by simp))
 obtain ⟨x1,X1,n1,c1,e1,h1⟩:=Kw (hv 1 (by simp))
 rw [e0,e1]
 exact (Mo (kA s).k (kA s).u x0 x1 X0 X1 n0 c0 n1 c1 x y _ h0 h1 hn hn').mono λe w' ⟨y,Y,m,k,he,hI,hE⟩=>⟨_,he,hE,λs' hw hok' _ hle=>by subst hw;exact Mn hok' hI⟩
theorem TH(z:Int)(h0:-9223372036854775808<=z)(h1:z<=9223372036854775807):Abs Tryz.prog 32 [ex (.int .i64 z)] (BX (EJ z)):=by
 refine Bf (AN Tryz.func32 (by kernel_rfl) (by kernel_rfl)) λs vs hok hl hv=>?_
 rw [Rr hl]
 have e0:vs.getD 0 undef = .int .i64 z:=hv 0 (by simp)
 rw [e0]
 exact (Ll z _ h0 h1).mono λe w' ⟨y,Y,m,k,he,hI,hE⟩=>⟨_,he,hE,λs' hw hok' _ hle=>by subst hw;exact Mn hok' hI⟩
theorem GE(x y:Nat):Abs Tryz.prog 75 [aD (Af x),aD (Af y)] (ex (.int .i64 (CT x y))):=by
 refine Bf (AN Tryz.func75 (by kernel_rfl) (by kernel_rfl)) λs vs hok hl hv=>?_
 rw [Rq hl]
 exact (@CZ (kA s) _ _ x y _ (Fl (hv 0 (by simp))) (Fl (hv 1 (by simp)))).mono λe w' ⟨he,hE⟩=>⟨_,he,hE,λs' hw hok' _ _=>rfl⟩
theorem QL(l:List Nat):Abs Tryz.prog 77 [aD l] (aD (Cv l)):=by
 refine Bf (AN Tryz.func77 (by kernel_rfl) (by kernel_rfl)) λs vs hok hl hv=>?_
 rw [Rr hl]
 exact (@CY (kA s) _ l _ (Fl (hv 0 (by simp)))).mono λe w' ⟨v,he,hI,hE⟩=>⟨_,he,hE,λs' hw hok' _ hle=>by subst hw;exact IE hok' hle hI⟩
theorem MO(x y:Nat)(hn:(Af x).length<=4398046511103)(hn':(Af y).length<=4398046511103):Abs Tryz.prog 76 [aD (Af x),aD (Af y)] (aD (Af (Nat.gcd x y))):=by
 refine Bf (AN Tryz.func76 (by kernel_rfl) (by kernel_rfl)) λs vs hok hl hv=>?_
 rw [Rq hl]
 exact (@In (kA s) _ _ x y _ (Fl (hv 0 (by simp))) (Fl (hv 1 (by simp))) hn hn').mono λe w' ⟨v,he,hI,hE⟩=>⟨_,he,hE,λs' hw hok' _ hle=>by subst hw;exact IE hok' hle hI⟩
end Go.Proofs.YtclmdofdjbdfiaaGreat
