/- Part 17 of the proof of squaresGram_holds. No condition. -/
import Derived.Test.YtnbfnoebjjdmnaaGreatGm2
import Derived.Test.YtnbfnoebjjdmnaaGreatGm3
import Derived.Test.YtnbfnoebjjdmnaaGreatGm9
import Derived.Test.YtnbfnoebjjdmnaaGreatGm14
import Derived.Test.YtnbfnoebjjdmnaaGreatGm15
import Derived.Test.YtnbfnoebjjdmnaaGreatGm16
set_option linter.unusedSimpArgs false
set_option linter.unusedVariables false
set_option maxRecDepth 100000
set_option maxHeartbeats 1000000
namespace Go.Proofs.YtnbfnoebjjdmnaaGreat
open Go.RowKit
theorem AG {P : Program} {f : FuncId} {fn : Func} (hf : P.funcs[f]? = some fn) (hn : (fn.name == "runtime.NumGoroutine") = false) (hb : fn.body.isNone = false) (args : Array Value) (w : World) : (callFunc f args).run P w = .ok (.enter f args) w := by
 have:(program).run P w = .ok P w:=rfl
 have hn' : ¬ fn.name = "runtime.NumGoroutine" := by simpa using hn
 have hb':¬fn.body=none:=λe=>by rw [e] at hb;cases hb
 simp [callFunc,this,hf,hn',hb']
theorem Bh{P:Program}{f:FuncId}{ds:List D}{r:D}(hcf:∀args w,(callFunc f args).run P w = .ok (.enter f args) w)(h:∀(s:GS) (vs:List Value),s.Ok->vs.length=ds.length->(∀k,k<ds.length->(Cj ds k).rel s (vs.getD k undef)) ->
  Calls P f vs.toArray s.w λe w'=>∃v,e = .returned v/\Ext s.w w'/\∀s':GS,s'.w=w'->s'.Ok->(∀b k,s.w.heap.size<=b->b<w'.heap.size->s'.S b k)->GS.Le s s'->r.rel s' v):Abs P f ds r:=by
 refine ⟨hcf,λs vs hok hl hv=>(h s vs hok hl hv).mono λe w' ⟨v,he,hE,hr⟩=>⟨v,he,s.grown w',rfl,Gd hE,?_⟩⟩
 exact hr _ rfl ((Gd hE).ok hok) (λb k h1 h2=>.inr ⟨h1,h2⟩) (Gd hE)
theorem vs1{vs:List Value}(h:vs.length=1):vs=[vs.getD 0 undef]:=by
 match vs,h with
 | [a],_=>rfl
theorem Nb{vs:List Value}(h:vs.length=2):vs=[vs.getD 0 undef,vs.getD 1 undef]:=by
 match vs,h with
 | [a,b],_=>rfl
def wD(l:List Nat):D:=⟨λs v=>(slD 108 1 (l.map λx=>[ex (.int .u32 (x:Nat))])).rel s v/\Bn l,λh hc=>⟨(slD _ _ _).st h.1 hc,h.2⟩⟩
theorem En{s:GS}{v:Value}{l:List Nat}(h:(wD l).rel s v):Words s.w v l:=by
 obtain ⟨⟨A,c,h1,h2,h3,h4⟩,hs⟩:=h
 simp only [List.length_map] at h1 h2 h4
 refine ⟨A,c,h1,h2,h3,hs,λh0=>?_⟩
 obtain ⟨b,o,h5,h6⟩:=h4 h0
 obtain ⟨_,cs,fz,h7,h8⟩:=h6 0 h0
 refine ⟨b,o,cs,fz,h5,h7,λi hi=>?_⟩
 obtain ⟨h9,cs',fz',h10,h11⟩:=h6 i hi
 rw [h7] at h10
 cases h10
 obtain ⟨_,u,h12,_,h13⟩:=h11 0 (by rw [h9];omega)
 have e:Cj ((l.map λx=>[ex (.int .u32 (x:Nat))]).getD i []) 0=ex (.int .u32 (l[i]:Nat)):=by simp [Cj,hi]
 rw [e] at h13
 have h13:u=_:=h13
 rw [Nat.mul_one,Nat.add_zero] at h12
 rw [h12,h13]
theorem Hl{s:GS}{v:Value}{l:List Nat}(hok:s.Ok)(h:Words s.w v l):(wD l).rel s v:=by
 obtain ⟨A,c,h1,h2,h3,hs,h4⟩:=h
 refine ⟨⟨A,c,by rw [List.length_map];exact h1,by rw [List.length_map];exact h2,h3,λh0=>?_⟩,hs⟩
 rw [List.length_map] at h0
 obtain ⟨b,o,cs,fz,h5,h6,h7⟩:=h4 h0
 refine ⟨b,o,h5,λk hk=>?_⟩
 rw [List.length_map] at hk
 have e:(l.map λx=>[ex (.int .u32 (x:Nat))]).getD k []=[ex (.int .u32 (l[k]:Nat))]:=by simp [hk]
 rw [e]
 refine ⟨rfl,cs,fz,h6,λj hj=>?_⟩
 obtain rfl:j=0:=by simp at hj;omega
 rw [Nat.mul_one,Nat.add_zero]
 exact ⟨hok.safe b _ ⟨cs,fz,h6⟩,_,h7 k hk,rfl,rfl⟩
def Dz(z:Int):List D:=[ex (.bool (decide (z<0))),wD (Am z.natAbs)]
def Bz(q:Rat):List D:=[ex (.bool (decide (q.num<0))),wD (Am q.num.natAbs),ex (.bool (decide ((q.den:Int)<0))),wD (Am (q.den:Int).natAbs)]
theorem IZ{s:GS}{v:Value}{l:List Nat}(h:(wD l).rel s v):∃A n c,v = .slice A n c:=by
 obtain ⟨A,c,h1,_⟩:=h.1
 exact ⟨A,_,c,h1⟩
theorem ag2{s:GS}{v:Value}{d0 d1:D}(h:(BF [d0,d1]).rel s v):∃u0 u1,v = .agg #[u0,u1]/\d0.rel s u0/\d1.rel s u1:=by
 obtain ⟨cs,rfl,h1,h2⟩:=h
 obtain ⟨u0,e0,_,r0⟩:=h2 0 (by simp)
 obtain ⟨u1,e1,_,r1⟩:=h2 1 (by simp)
 refine ⟨u0,u1,?_,r0,r1⟩
 congr 1
 refine Array.ext (by simpa using h1) λi q1 q2=>?_
 simp at q2
 match i,q2 with
 | 0,_=>exact Option.some.inj ((Array.getElem?_eq_getElem q1).symm.trans e0)
 | 1,_=>exact Option.some.inj ((Array.getElem?_eq_getElem q1).symm.trans e1)
theorem ag4{s:GS}{v:Value}{d0 d1 d2 d3:D}(h:(BF [d0,d1,d2,d3]).rel s v):∃u0 u1 u2 u3,v = .agg #[u0,u1,u2,u3]/\d0.rel s u0/\d1.rel s u1/\d2.rel s u2/\d3.rel s u3:=by
 obtain ⟨cs,rfl,h1,h2⟩:=h
 obtain ⟨u0,e0,_,r0⟩:=h2 0 (by simp)
 obtain ⟨u1,e1,_,r1⟩:=h2 1 (by simp)
 obtain ⟨u2,e2,_,r2⟩:=h2 2 (by simp)
 obtain ⟨u3,e3,_,r3⟩:=h2 3 (by simp)
 refine ⟨u0,u1,u2,u3,?_,r0,r1,r2,r3⟩
 congr 1
 refine Array.ext (by simpa using h1) λi q1 q2=>?_
 simp at q2
 match i,q2 with
 | 0,_=>exact Option.some.inj ((Array.getElem?_eq_getElem q1).symm.trans e0)
 | 1,_=>exact Option.some.inj ((Array.getElem?_eq_getElem q1).symm.trans e1)
 | 2,_=>exact Option.some.inj ((Array.getElem?_eq_getElem q1).symm.trans e2)
 | 3,_=>exact Option.some.inj ((Array.getElem?_eq_getElem q1).symm.trans e3)
theorem A3E{s:GS}{v:Value}{l:List Value}(h:(BF (l.map ex)).rel s v):v = .agg l.toArray:=by
 obtain ⟨cs,rfl,h1,h2⟩:=h
 congr 1
 refine Array.ext (by simpa using h1) λi q1 q2=>?_
 simp at q2
 obtain ⟨u,e,_,r⟩:=h2 i (by simpa using q2)
 have e2:Cj (l.map ex) i=ex l[i]:=by simp [Cj,q2]
 rw [e2] at r
 have r:u=l[i]:=r
 rw [Array.getElem?_eq_getElem q1] at e
 rw [Option.some.inj e,r]
 simp
theorem A3u{s:GS}{l:List Value}(h:Gg l=true):(BF (l.map ex)).rel s (.agg l.toArray):=by
 refine ⟨_,rfl,by simp,λk hk=>?_⟩
 simp at hk
 refine ⟨l[k],by simp [hk],List.all_eq_true.1 h _ (by simp),?_⟩
 have e2:Cj (l.map ex) k=ex l[k]:=by simp [Cj,hk]
 rw [e2]
 rfl
theorem Cc{s:GS}{v:Value}{q:Rat}(h:(BF (Bz q)).rel s v):∃(b b':Bool) (A A':Option Addr) (n c n' c':Nat),v = .agg #[.bool b,.slice A n c,.bool b',.slice A' n' c']/\IsRat s.w (.bool b) (.slice A n c) (.bool b') (.slice A' n' c') q:=by
 obtain ⟨u0,u1,u2,u3,rfl,h0,h1,h2,h3⟩:=ag4 h
 obtain rfl:u0=_:=h0
 obtain rfl:u2=_:=h2
 obtain ⟨A,n,c,rfl⟩:=IZ h1
 obtain ⟨A',n',c',rfl⟩:=IZ h3
 exact ⟨_,_,A,A',n,c,n',c',rfl,⟨rfl,En h1⟩,⟨rfl,En h3⟩⟩
theorem EC{s:GS}{q:Rat}{b b':Bool}{A A':Option Addr}{n c n' c':Nat}(hok:s.Ok)(h:IsRat s.w (.bool b) (.slice A n c) (.bool b') (.slice A' n' c') q):(BF (Bz q)).rel s (.agg #[.bool b,.slice A n c,.bool b',.slice A' n' c']):=by
 obtain ⟨⟨h1,h2⟩,h3,h4⟩:=h
 refine ⟨_,rfl,rfl,λk hk=>?_⟩
 have hk:k<4:=hk
 match k,hk with
 | 0,_=>exact ⟨_,rfl,rfl,h1⟩
 | 1,_=>exact ⟨_,rfl,rfl,Hl hok h2⟩
 | 2,_=>exact ⟨_,rfl,rfl,h3⟩
 | 3,_=>exact ⟨_,rfl,rfl,Hl hok h4⟩
theorem Ce{s:GS}{v:Value}{z:Int}(h:(BF (Dz z)).rel s v):∃(b:Bool) (A:Option Addr) (n c:Nat),v = .agg #[.bool b,.slice A n c]/\IsInt s.w (.bool b) (.slice A n c) z:=by
 obtain ⟨u0,u1,rfl,h0,h1⟩:=ag2 h
 obtain rfl:u0=_:=h0
 obtain ⟨A,n,c,rfl⟩:=IZ h1
 exact ⟨_,A,n,c,rfl,rfl,En h1⟩
theorem GP{s:GS}{z:Int}{b:Bool}{A:Option Addr}{n c:Nat}(hok:s.Ok)(h:IsInt s.w (.bool b) (.slice A n c) z):(BF (Dz z)).rel s (.agg #[.bool b,.slice A n c]):=by
 obtain ⟨h1,h2⟩:=h
 refine ⟨_,rfl,rfl,λk hk=>?_⟩
 have hk:k<2:=hk
 match k,hk with
 | 0,_=>exact ⟨_,rfl,rfl,h1⟩
 | 1,_=>exact ⟨_,rfl,rfl,Hl hok h2⟩
def BW(a:Nat->Int):List D:=[ex (.int .i64 (a 0)),ex (.int .i64 (a 1)),ex (.int .i64 (a 2)),ex (.int .i64 (a 3)),ex (.int .i64 (a 4)),ex (.int .i64 (a 5)),ex (.int .i64 (a 6)),ex (.int .i64 (a 7))]
theorem Eh{s:GS}{v:Value}{a:Nat->Int}(h:(BF (BW a)).rel s v):v = .agg (c8 a):=A3E (l:=(c8 a).toList) h
theorem A0L{s:GS}(a:Nat->Int):(BF (BW a)).rel s (.agg (c8 a)):=A3u (l:=(c8 a).toList) rfl
theorem Pd{a:Nat->Int}{i:Nat}(h:i<8):Cj (BW a) i=ex (.int .i64 (a i)):=by
 match i,h with
 | 0,_=>rfl
 | 1,_=>rfl
 | 2,_=>rfl
 | 3,_=>rfl
 | 4,_=>rfl
 | 5,_=>rfl
 | 6,_=>rfl
 | 7,_=>rfl
def Ix(t:Tm):List D:=Bz t.c++BW t.m
theorem Dh(q:Rat):(Bz q).length=4:=rfl
theorem KA(a:Nat->Int):(BW a).length=8:=rfl
theorem Iw(t:Tm):(Ix t).length=12:=rfl
theorem XC(t:Tm):(Ix t).drop 4=BW t.m:=rfl
theorem Vf{s:GS}{cs:Array Value}{t:Tm}(hok:s.Ok)(h:TmV s.w cs t):∀k,k<12->∃u,cs[k]? = some u/\u.oneCell'=true/\(Cj (Ix t) k).rel s u:=by
 obtain ⟨b,b',A,A',n,c,n',c',rfl,⟨h1,h2⟩,h3,h4⟩:=h
 intro k hk
 match k,hk with
 | 0,_=>exact ⟨_,rfl,rfl,h1⟩
 | 1,_=>exact ⟨_,rfl,rfl,Hl hok h2⟩
 | 2,_=>exact ⟨_,rfl,rfl,h3⟩
 | 3,_=>exact ⟨_,rfl,rfl,Hl hok h4⟩
 | 4,_=>exact ⟨_,rfl,rfl,rfl⟩
 | 5,_=>exact ⟨_,rfl,rfl,rfl⟩
 | 6,_=>exact ⟨_,rfl,rfl,rfl⟩
 | 7,_=>exact ⟨_,rfl,rfl,rfl⟩
 | 8,_=>exact ⟨_,rfl,rfl,rfl⟩
 | 9,_=>exact ⟨_,rfl,rfl,rfl⟩
 | 10,_=>exact ⟨_,rfl,rfl,rfl⟩
 | 11,_=>exact ⟨_,rfl,rfl,rfl⟩
theorem Wx{s:GS}{cs:Array Value}{t:Tm}(hsz:cs.size=12)(h:∀k,k<12->∃u,cs[k]? = some u/\u.oneCell'=true/\(Cj (Ix t) k).rel s u):TmV s.w cs t:=by
 obtain ⟨u0,e0,_,r0⟩:=h 0 (by omega)
 obtain ⟨u1,e1,_,r1⟩:=h 1 (by omega)
 obtain ⟨u2,e2,_,r2⟩:=h 2 (by omega)
 obtain ⟨u3,e3,_,r3⟩:=h 3 (by omega)
 obtain rfl:u0=_:=r0
 obtain rfl:u2=_:=r2
 obtain ⟨A,n,c,rfl⟩:=IZ r1
 obtain ⟨A',n',c',rfl⟩:=IZ r3
 have hm:∀i,i<8->cs[4+i]? = some (.int .i64 (t.m i)):=λi hi=>by
  obtain ⟨u,e,_,r⟩:=h (4+i) (by omega)
  have e2:Cj (Ix t) (4+i)=ex (.int .i64 (t.m i)):=by rw [<-Pd hi,<-XC,MB]
  rw [e2] at r
  rw [e]
  exact congrArg some r
 refine ⟨_,_,A,A',n,c,n',c',?_,⟨rfl,En r1⟩,rfl,En r3⟩
 refine Array.ext (by rw [hsz];rfl) λi q1 q2=>?_
 rw [hsz] at q1
 refine Option.some.inj ?_
 rw [<-Array.getElem?_eq_getElem,<-Array.getElem?_eq_getElem]
 match i,q1 with
 | 0,_=>exact e0
 | 1,_=>exact e1
 | 2,_=>exact e2
 | 3,_=>exact e3
 | 4,_=>exact hm 0 (by omega)
 | 5,_=>exact hm 1 (by omega)
 | 6,_=>exact hm 2 (by omega)
 | 7,_=>exact hm 3 (by omega)
 | 8,_=>exact hm 4 (by omega)
 | 9,_=>exact hm 5 (by omega)
 | 10,_=>exact hm 6 (by omega)
 | 11,_=>exact hm 7 (by omega)
def Bp(P:List Tm):D:=slD 81 12 (P.map Ix)
theorem QG{P:List Tm}{k:Nat}(h:k<P.length):(P.map Ix).getD k []=Ix (AZ P k):=by simp [AZ,List.getD_eq_getElem?_getD,List.getElem?_eq_getElem h]
theorem Ia{s:GS}{v:Value}{P:List Tm}(h:(Bp P).rel s v):PolAt s.w v P:=by
 obtain ⟨A,c,h1,h2,h3,h4⟩:=h
 simp only [List.length_map] at h1 h2 h4
 refine ⟨A,c,h1,h2,h3,λh0=>?_⟩
 obtain ⟨b,o,h5,h6⟩:=h4 h0
 obtain ⟨_,cs,fz,h7,h8⟩:=h6 0 h0
 refine ⟨b,o,cs,fz,h5,h7,λk hk=>?_⟩
 obtain ⟨h9,cs',fz',h10,h11⟩:=h6 k hk
 rw [h7] at h10
 cases h10
 rw [QG hk] at h11
 refine ⟨cs.extract (o+k*12) (o+k*12+12),Wx (s:=s) ?_ λj hj=>?_,λj hj=>?_⟩
 .obtain ⟨_, u, e, _⟩:=h11 11 (by simp [Iw])
  have:=(Array.getElem?_eq_some_iff.1 e).1
  simp
  omega
 .obtain ⟨_,u,e,r1,r2⟩:=h11 j hj
  exact ⟨u,by rw [Array.getElem?_extract,if_pos (by have:=(Array.getElem?_eq_some_iff.1 e).1;obtain ⟨_,u',e',_⟩:=h11 11 (by simp [Iw]);have:=(Array.getElem?_eq_some_iff.1 e').1;omega)];exact e,r1,r2⟩
 .obtain ⟨_, u', e', _⟩:=h11 11 (by simp [Iw])
  have:=(Array.getElem?_eq_some_iff.1 e').1
  rw [Array.getElem?_extract,if_pos (by omega)]
theorem A0y{s:GS}{v:Value}{P:List Tm}(hok:s.Ok)(h:PolAt s.w v P)(hS:∀b o,v=v->(∃n c,v = .slice (some ⟨b,o,none⟩) n c)->∀k,s.S b k):(Bp P).rel s v:=by
 obtain ⟨A,c,h1,h2,h3,h4⟩:=h
 refine ⟨A,c,by rw [List.length_map];exact h1,by rw [List.length_map];exact h2,h3,λh0=>?_⟩
 rw [List.length_map] at h0
 obtain ⟨b,o,cs,fz,h5,h6,h7⟩:=h4 h0
 subst h5
 refine ⟨b,o,rfl,λk hk=>?_⟩
 rw [List.length_map] at hk
 rw [QG hk]
 refine ⟨rfl,cs,fz,h6,λj hj=>⟨hS b o rfl ⟨_,_,h1⟩ _,?_⟩⟩
 obtain ⟨ts,h8,h9⟩:=h7 k hk
 obtain ⟨u,h10,h11,h12⟩:=Vf hok h8 j hj
 exact ⟨u,(h9 j hj).trans h10,h11,h12⟩
theorem Yl{w':World}{v:Value}{P:List Tm}{W:Nat}(h:OwnP W w' v P){s':GS}(hw:s'.w=w')(hok:s'.Ok)(hS:∀b k,W<=b->b<w'.heap.size->s'.S b k):(Bp P).rel s' v:=by
 subst hw
 refine A0y hok h.pol λb o _ ⟨n,c,hv⟩ k=>?_
 obtain ⟨cl,h1,⟨h2,h3⟩,h4⟩:=h
 rcases h3 with ⟨e,_⟩ | ⟨g,cap,cur,e,h5,h6,_⟩
 .rw [e] at hv;cases hv
 .rw [e] at hv
  cases hv
  exact hS _ k h5 (AU h6)
theorem YF{a b:Nat->Int}(h:Eqv a b):BW a=BW b:=by unfold BW;rw [h 0 (by omega),h 1 (by omega),h 2 (by omega),h 3 (by omega),h 4 (by omega),h 5 (by omega),h 6 (by omega),h 7 (by omega)]
theorem A1Q{s t:Tm}(h:s.c=t.c)(h':Eqv s.m t.m):Ix s=Ix t:=by unfold Ix;rw [h,YF h']
theorem Vw{P Q:List Tm}(h:SameL P Q):Bp P=Bp Q:=by
 unfold Bp
 congr 1
 induction P generalizing Q with
 | nil=>cases Q with
  | nil=>rfl
  | cons=>exact h.elim
 | cons s P ih=>cases Q with
  | nil=>exact h.elim
  | cons t Q=>rw [List.map_cons,List.map_cons,A1Q h.1 h.2.1,ih h.2.2]
theorem A0b{s:GS}{u v:Value}{x y:D}(hx:x.rel s u)(hy:y.rel s v):(CK [x,y]).rel s (.tuple #[u,v]):=⟨_,rfl,rfl,λk hk=>by
 match k,hk with
 | 0,_=>exact ⟨_,rfl,hx⟩
 | 1,_=>exact ⟨_,rfl,hy⟩
 | k+2,hk=>exact absurd hk (by simp)⟩
theorem UR(p q:Rat)(N M:Nat)(hp:RSz p N)(hq:RSz q M)(hN:N+M<=4398046511104):Abs Tryz.prog 74 [BF (Bz p),BF (Bz q)] (BF (Bz (p*q))):=by
 refine Bh (AG Tryz.func74 (by kernel_rfl) (by kernel_rfl)) λs vs hok hl hv=>?_
 rw [Nb hl]
 obtain ⟨x0,x0',X0,X0',n0,c0,n0',c0',e0,h0⟩:=Cc (hv 0 (by simp))
 obtain ⟨x1,x1',X1,X1',n1,c1,n1',c1',e1,h1⟩:=Cc (hv 1 (by simp))
 rw [e0,e1]
 exact (PW x0 x0' X0 X0' n0 c0 n0' c0' x1 x1' X1 X1' n1 c1 n1' c1' p q N M _ h0 h1 hp hq hN).mono λe w' ⟨y,y',Y,Y',m,k,m',k',he,hI,hE⟩=>⟨_,he,hE,λs' hw hok' _ _=>by subst hw;exact EC hok' hI⟩
theorem A1r(p q:Rat)(N M:Nat)(hp:RSz p N)(hq:RSz q M)(hN:N+M+1<=4398046511104):Abs Tryz.prog 100 [BF (Bz p),BF (Bz q)] (BF (Bz (p+q))):=by
 refine Bh (AG Tryz.func100 (by kernel_rfl) (by kernel_rfl)) λs vs hok hl hv=>?_
 rw [Nb hl]
 obtain ⟨x0,x0',X0,X0',n0,c0,n0',c0',e0,h0⟩:=Cc (hv 0 (by simp))
 obtain ⟨x1,x1',X1,X1',n1,c1,n1',c1',e1,h1⟩:=Cc (hv 1 (by simp))
 rw [e0,e1]
 exact (Qb x0 x0' X0 X0' n0 c0 n0' c0' x1 x1' X1 X1' n1 c1 n1' c1' p q N M _ h0 h1 hp hq hN).mono λe w' ⟨y,y',Y,Y',m,k,m',k',he,hI,hE⟩=>⟨_,he,hE,λs' hw hok' _ _=>by subst hw;exact EC hok' hI⟩
theorem RE(p q:Rat)(N M:Nat)(hp:RSz p N)(hq:RSz q M)(hN:N+M<=4398046511103):Abs Tryz.prog 87 [BF (Bz p),BF (Bz q)] (BF (Bz (p*q))):=by
 refine Bh (AG Tryz.func87 (by kernel_rfl) (by kernel_rfl)) λs vs hok hl hv=>?_
 rw [Nb hl]
 obtain ⟨x0,x0',X0,X0',n0,c0,n0',c0',e0,h0⟩:=Cc (hv 0 (by simp))
 obtain ⟨x1,x1',X1,X1',n1,c1,n1',c1',e1,h1⟩:=Cc (hv 1 (by simp))
 rw [e0,e1]
 exact (ZE x0 x0' X0 X0' n0 c0 n0' c0' x1 x1' X1 X1' n1 c1 n1' c1' p q N M _ h0 h1 hp hq hN).mono λe w' ⟨y,y',Y,Y',m,k,m',k',he,hI,hE⟩=>⟨_,he,hE,λs' hw hok' _ _=>by subst hw;exact EC hok' hI⟩
theorem HV(p q:Rat)(N M:Nat)(hp:RSz p N)(hq:RSz q M)(hN:N+M+1<=4398046511103):Abs Tryz.prog 54 [BF (Bz p),BF (Bz q)] (BF (Bz (p+q))):=by
 refine Bh (AG Tryz.func54 (by kernel_rfl) (by kernel_rfl)) λs vs hok hl hv=>?_
 rw [Nb hl]
 obtain ⟨x0,x0',X0,X0',n0,c0,n0',c0',e0,h0⟩:=Cc (hv 0 (by simp))
 obtain ⟨x1,x1',X1,X1',n1,c1,n1',c1',e1,h1⟩:=Cc (hv 1 (by simp))
 rw [e0,e1]
 exact (ZG x0 x0' X0 X0' n0 c0 n0' c0' x1 x1' X1 X1' n1 c1 n1' c1' p q N M _ h0 h1 hp hq hN).mono λe w' ⟨y,y',Y,Y',m,k,m',k',he,hI,hE⟩=>⟨_,he,hE,λs' hw hok' _ _=>by subst hw;exact EC hok' hI⟩
theorem BU(p:Rat):Abs Tryz.prog 34 [BF (Bz p)] (ex (.int .i64 p.num.sign)):=by
 refine Bh (AG Tryz.func34 (by kernel_rfl) (by kernel_rfl)) λs vs hok hl hv=>?_
 rw [vs1 hl]
 obtain ⟨x0,x0',X0,X0',n0,c0,n0',c0',e0,h0⟩:=Cc (hv 0 (by simp))
 rw [e0]
 exact (Rq x0 x0' X0 X0' n0 c0 n0' c0' p _ h0).mono λe w' ⟨he,hE⟩=>⟨_,he,hE,λs' hw hok' _ _=>rfl⟩
theorem De(p:Rat):Abs Tryz.prog 11 [BF (Bz p)] (ex (.int .i64 p.num.sign)):=by
 refine Bh (AG Tryz.func11 (by kernel_rfl) (by kernel_rfl)) λs vs hok hl hv=>?_
 rw [vs1 hl]
 obtain ⟨x0,x0',X0,X0',n0,c0,n0',c0',e0,h0⟩:=Cc (hv 0 (by simp))
 rw [e0]
 exact (WQ x0 x0' X0 X0' n0 c0 n0' c0' p _ h0).mono λe w' ⟨he,hE⟩=>⟨_,he,hE,λs' hw hok' _ _=>rfl⟩
theorem Bv(z:Int)(h0:-9223372036854775808<=z)(h1:z<=9223372036854775807):Abs Tryz.prog 19 [ex (.int .i64 z)] (BF (Bz (z:Rat))):=by
 refine Bh (AG Tryz.func19 (by kernel_rfl) (by kernel_rfl)) λs vs hok hl hv=>?_
 rw [vs1 hl]
 have e0:vs.getD 0 undef = .int .i64 z:=hv 0 (by simp)
 rw [e0]
 exact (Tg z _ h0 h1).mono λe w' ⟨y,y',Y,Y',m,k,m',k',he,hI,hE⟩=>⟨_,he,hE,λs' hw hok' _ _=>by subst hw;exact EC hok' hI⟩
theorem ZC(x y:Int)(hn:(Am x.natAbs).length<=4398046511103)(hn':(Am y.natAbs).length<=4398046511103)(hy:y≠0):Abs Tryz.prog 92 [BF (Dz x),BF (Dz y)] (CK [BF (Bz (Rat.divInt x y)),ex (.int .i64 0)]):=by
 refine Bh (AG Tryz.func92 (by kernel_rfl) (by kernel_rfl)) λs vs hok hl hv=>?_
 rw [Nb hl]
 obtain ⟨x0,X0,n0,c0,e0,h0⟩:=Ce (hv 0 (by simp))
 obtain ⟨x1,X1,n1,c1,e1,h1⟩:=Ce (hv 1 (by simp))
 rw [e0,e1]
 exact (ZB x0 x1 X0 X1 n0 c0 n1 c1 x y _ h0 h1 hn hn' hy).mono λe w' ⟨y,y',Y,Y',m,k,m',k',he,hI,hE⟩=>⟨_,he,hE,λs' hw hok' _ _=>by subst hw;exact A0b (EC hok' hI) rfl⟩
theorem Ov(z:Int):Abs Tryz.prog 38 [BF (Dz z)] (ex (.int .i64 z.sign)):=by
 refine Bh (AG Tryz.func38 (by kernel_rfl) (by kernel_rfl)) λs vs hok hl hv=>?_
 rw [vs1 hl]
 obtain ⟨x0,X0,n0,c0,e0,h0⟩:=Ce (hv 0 (by simp))
 rw [e0]
 exact (GD x0 X0 n0 c0 z _ h0).mono λe w' ⟨he,hE⟩=>⟨_,he,hE,λs' hw hok' _ _=>rfl⟩
theorem DX(x y:Int)(hn:(Am x.natAbs).length<=4398046511104)(hn':(Am y.natAbs).length<=4398046511104):Abs Tryz.prog 86 [BF (Dz x),BF (Dz y)] (BF (Dz (x*y))):=by
 refine Bh (AG Tryz.func86 (by kernel_rfl) (by kernel_rfl)) λs vs hok hl hv=>?_
 rw [Nb hl]
 obtain ⟨x0,X0,n0,c0,e0,h0⟩:=Ce (hv 0 (by simp))
 obtain ⟨x1,X1,n1,c1,e1,h1⟩:=Ce (hv 1 (by simp))
 rw [e0,e1]
 exact (GE x0 x1 X0 X1 n0 c0 n1 c1 x y _ h0 h1 hn hn').mono λe w' ⟨y,Y,m,k,he,hI,hE⟩=>⟨_,he,hE,λs' hw hok' _ _=>by subst hw;exact GP hok' hI⟩
theorem Th(p q:Rat):Abs Tryz.prog 60 [BF (Bz p),BF (Bz q)] (ex (.bool (decide (p=q)))):=by
 refine Bh (AG Tryz.func60 (by kernel_rfl) (by kernel_rfl)) λs vs hok hl hv=>?_
 rw [Nb hl]
 obtain ⟨x0,x0',X0,X0',n0,c0,n0',c0',e0,h0⟩:=Cc (hv 0 (by simp))
 obtain ⟨x1,x1',X1,X1',n1,c1,n1',c1',e1,h1⟩:=Cc (hv 1 (by simp))
 rw [e0,e1]
 exact (MS x0 x0' X0 X0' n0 c0 n0' c0' x1 x1' X1 X1' n1 c1 n1' c1' p q _ h0 h1).mono λe w' ⟨he,hE⟩=>⟨_,he,hE,λs' hw hok' _ _=>rfl⟩
theorem YM(a b:Nat->Int):Abs Tryz.prog 110 [BF (BW a),BF (BW b)] (ex (.int .i64 (Fc a b))):=by
 refine Bh (AG Tryz.func110 (by kernel_rfl) (by kernel_rfl)) λs vs hok hl hv=>?_
 rw [Nb hl]
 have e0:=Eh (hv 0 (by simp))
 have e1:=Eh (hv 1 (by simp))
 rw [e0,e1]
 exact (YL a b _).mono λe w' ⟨he,hE⟩=>⟨_,he,hE,λs' hw hok' _ _=>rfl⟩
theorem DP(a b:Nat->Int):Abs Tryz.prog 43 [BF (BW a),BF (BW b)] (ex (.int .i64 (Fc a b))):=by
 refine Bh (AG Tryz.func43 (by kernel_rfl) (by kernel_rfl)) λs vs hok hl hv=>?_
 rw [Nb hl]
 have e0:=Eh (hv 0 (by simp))
 have e1:=Eh (hv 1 (by simp))
 rw [e0,e1]
 exact (WL a b _).mono λe w' ⟨he,hE⟩=>⟨_,he,hE,λs' hw hok' _ _=>rfl⟩
theorem YK(a b:Nat->Int)(ha:In8 a 0 65535)(hb:In8 b 0 65535)(h:In8 (Ba a b) 0 65535):Abs Tryz.prog 79 [BF (BW a),BF (BW b)] (CK [BF (BW (Ba a b)),ex (.int .i64 0)]):=by
 refine Bh (AG Tryz.func79 (by kernel_rfl) (by kernel_rfl)) λs vs hok hl hv=>?_
 rw [Nb hl]
 have e0:=Eh (hv 0 (by simp))
 have e1:=Eh (hv 1 (by simp))
 rw [e0,e1]
 exact (NR a b _ ha hb h).mono λe w' ⟨he,hE⟩=>⟨_,he,hE,λs' hw hok' _ _=>A0b (A0L _) rfl⟩
theorem WS(P Q:List Tm):Abs Tryz.prog 14 [Bp P,Bp Q] (ex (.bool (ND P Q))):=by
 refine Bh (AG Tryz.func14 (by kernel_rfl) (by kernel_rfl)) λs vs hok hl hv=>?_
 rw [Nb hl]
 have h0:=Ia (hv 0 (by simp))
 have h1:=Ia (hv 1 (by simp))
 exact (WR (vs.getD 0 undef) (vs.getD 1 undef) P Q _ h0 h1).mono λe w' ⟨he,hE⟩=>⟨_,he,hE,λs' hw hok' _ _=>rfl⟩
theorem ZP(P Q:List Tm)(N M:Nat)(hP:PSz P N)(hQ:PSz Q M)(p q:Int)(hPi:PIn P 0 p)(hQi:PIn Q 0 q)(hpq:p+q<=65535)(hp0:0<=p)(hq0:0<=q)(hn:P.length*Q.length<=100000)(hNM:N+M+1<=10000000):Abs Tryz.prog 47 [Bp P,Bp Q] (Uc (λS=>Canon S/\Sim S (Hk P Q)/\PIn S 0 (p+q)/\PSz S (P.length*Q.length*(N+M+1))/\S.length<=P.length*Q.length) λS=>CK [Bp S,ex (.int .i64 0)]):=by
 refine Bh (AG Tryz.func47 (by kernel_rfl) (by kernel_rfl)) λs vs hok hl hv=>?_
 rw [Nb hl]
 have h0:=Ia (hv 0 (by simp))
 have h1:=Ia (hv 1 (by simp))
 exact (ZO (vs.getD 0 undef) (vs.getD 1 undef) P Q _ h0 h1 N M hP hQ p q hPi hQi hpq hp0 hq0 hn hNM).mono λe w' ⟨S,g1,g2,g3,g4,g5,A,c,he,hO,hE⟩=>⟨_,he,hE,λs' hw hok' hS _=>⟨S,⟨g1,g2,g3,g4,g5⟩,A0b (Yl hO hw hok' hS) rfl⟩⟩
theorem A0U{l:List D}{k:Nat}:(l.map AV.d)[k]? = if k<l.length then some (.d (Cj l k)) else none:=by
 rw [List.getElem?_map]
 split
 .rename_i h
  simp [Cj,h]
 .rename_i h
  simp [List.getElem?_eq_none (Nat.le_of_not_lt h)]
section
variable {P:Program} {hp:List Ow} {o:Oper} {arg:Operand->AV}
theorem Tl{T U:TypeId}{x y:Operand}{a:Nat}(hop:o.op = .binOp .add T x y U)(hx:arg x = .d (ex (.int .i64 (a:Nat))))(hy:arg y = .d (ex (.int .i64 1)))(h1:(a:Int)<9223372036854775807):Quiet P hp o arg (.d (ex (.int .i64 ((a+1:Nat):Int)))):=
 Quiet.add hop hx hy (by omega) (by omega)
theorem Quiet.quo{T U:TypeId}{x y:Operand}{a b:Int}(hop:o.op = .binOp .quo T x y U)(hx:arg x = .d (ex (.int .i64 a)))(hy:arg y = .d (ex (.int .i64 b)))(h0:0<=a)(h1:a<=9223372036854775807)(hb:0<b):Quiet P hp o arg (.d (ex (.int .i64 (a/b)))):=
 Em hop hx hy λw=>by
  have h2:a/b<=a:=Int.ediv_le_self b h0
  have h3:0<=a/b:=Int.ediv_nonneg h0 (by omega)
  have h4:a.tdiv b=a/b:=Int.tdiv_eq_ediv_of_nonneg h0
  have e:IntKind.i64.wrap (a/b)=a/b:=IntWalk.i64_in _ (by omega)
  have hne:b≠0:=by omega
  simp [eqGuard,binOp,Op.intDiv,hne,h4,e]
theorem Quiet.rem{T U:TypeId}{x y:Operand}{k:IntKind}{a b:Int}(hop:o.op = .binOp .rem T x y U)(hx:arg x = .d (ex (.int k a)))(hy:arg y = .d (ex (.int k b)))(h0:0<=a)(hb:0<b):Quiet P hp o arg (.d (ex (.int k (a%b)))):=
 Em hop hx hy λw=>by
  have h4:a.tmod b=a%b:=Int.tmod_eq_emod_of_nonneg h0
  have hne:b≠0:=by omega
  simp [eqGuard,binOp,Op.intDiv,hne,h4]
theorem Tn{T U:TypeId}{x y:Operand}{k:IntKind}{a b:Int}(hop:o.op = .binOp .rem T x y U)(hx:arg x = .d (ex (.int k a)))(hy:arg y = .d (ex (.int k b)))(hb:b≠0):Quiet P hp o arg (.d (ex (.int k (a.tmod b)))):=
 Em hop hx hy λw=>by simp [eqGuard,binOp,Op.intDiv,hb]
theorem Quiet.max{x y:Operand}{tys:Array TypeId}{k:IntKind}{a b:Int}(hop:o.op = .call { callee:=.builtin .max,args:=#[x,y],argTypes:=tys })(hx:arg x = .d (ex (.int k a)))(hy:arg y = .d (ex (.int k b))):Quiet P hp o arg (.d (ex (.int k (Max.max a b)))):=by
 refine ⟨λbase s ρ ev hok hbs hhp h=>?_⟩
 have h1:=h x (by rw [hop];simp [Op.operands,Call.operands])
 have h2:=h y (by rw [hop];simp [Op.operands,Call.operands])
 rw [hx] at h1;rw [hy] at h2
 have e1:ev x = .int k a:=h1
 have e2:ev y = .int k b:=h2
 refine BO (v:=.int k (Max.max a b)) ?_ ⟨GS.Le.refl s,rfl⟩
 have e3:(if b>a then b else a)=Max.max a b:=by
  rw [Int.max_def]
  by_cases h:a<=b
  .rw [if_pos h];split<;>omega
  .rw [if_neg h,if_neg (by omega)]
 simp only [execOp,hop,resolve,invoke,builtin,Sem.run_bind,Sem.run_pure,Result.andThen_ok,List.map_toArray,List.map_cons,List.map_nil,e1,e2,Builtin.max_,List.foldlM_cons,List.foldlM_nil,Builtin.max2,e3]
theorem PO{α:Type}[Inhabited α]{x y:Operand}{t:TypeId}{e n b n' b' T sz k:Nat}{d:TypeDesc}{z z':Value}{f:α->List D}{l:List α}{κ:IntKind}(hop:o.op = .indexAddr t x y)(hx:Ew hp (arg x)=some (slD T sz (l.map f)))(hy:arg y = .d (ex (.int κ (k:Nat))))(ht:Tab P t (.slice e) n b z)(he:Tab P e d n' b' z')(hsz:n'=sz)(hk:k<l.length):Quiet P hp o arg (.d (Is T (f (l.getD k default)))):=by
 have h1:=Quiet.index (P:=P) (hp:=hp) hop hx hy ht he hsz (by omega) (by simp;omega)
 have e1:(l.map f).getD ((k:Nat):Int).toNat []=f (l.getD k default):=by
  show (l.map f).getD k []=_
  simp [List.getD_eq_getElem?_getD,hk]
 rwa [e1] at h1
theorem PL{x:Operand}{t:TypeId}{d:TypeDesc}{n b T:Nat}{z:Value}{ds:List D}(hop:o.op = .load t x)(hx:arg x = .d (Is T ds))(ht:Tab P t d n b z)(hd:Ec d=true)(hn:ds.length=n):Quiet P hp o arg (.d (BF ds)):=by
 have:=KO (P:=P) (hp:=hp) hop hx ht hd (by omega)
 rwa [<-hn,List.take_length] at this
theorem Rn{hp:List Ow}:∀(l:List D),SZ hp (l.map .d)=some l
 | []=>rfl
 | x::l=>by simp only [List.map_cons,SZ,Ew,Rn l]
theorem RK{x:Operand}{t:TypeId}{d:TypeDesc}{n b T id off:Nat}{z:Value}{ds:List D}(hop:o.op = .load t x)(hx:arg x = .ptr id off)(hh:hp[id]? = some (.var T (ds.map .d)))(ht:Tab P t d n b z)(hd:Ec d=true)(hn:Nat.ble (off+n) ds.length=true):Quiet P hp o arg (.d (BF ((ds.drop off).take n))):=
 RJ hop hx hh ht hd (by rw [<-List.map_drop,<-List.map_take];exact Rn _) (by have:=Nat.le_of_ble_eq_true hn;simpa using this)
theorem JD{x:Operand}{t:TypeId}{d:TypeDesc}{n b T id off:Nat}{z:Value}{ds:List D}(hop:o.op = .load t x)(hx:arg x = .ptr id off)(hh:hp[id]? = some (.var T (ds.map .d)))(ht:Tab P t d n b z)(hd:Ec d=false)(hn:off<ds.length):Quiet P hp o arg (.d (Cj ds off)):=
 PK hop hx hh ht hd (by rw [A0U,if_pos hn])
end
section
variable {P:Program} {s0:An} {n:Nat} {ops:Array Oper} {Q:Exit->AS->Prop} {rest:List Oper} {o:Oper} {σ:AS}
theorem TL{T T0:TypeId}{d:TypeDesc}{b id m:Nat}{z:Value}{x y:Operand}{cells:List AV}{ds:List D}(hop:o.op = .store T x y)(hg:o.guard=none)(hds:o.dst=none)(hx:σ.arg x = .ptr id 0)(hy:σ.arg y = .d (BF ds))(hh:σ.hp[id]? = some (.var T0 cells))(ht:Tab P T d m b z)(hm:ds.length=m)(hoff:cells.length=m)
  (h:AWl P s0 n ops Q rest { fr:=σ.fr,hp:=σ.hp.set id (.var T0 (ds.map .d)) }):AWl P s0 n ops Q (o::rest) σ:=by
 refine TM hop hg hds hx hy hh ht hm (by omega) ?_
 have:IA cells 0 (ds.map .d)=ds.map .d:=by
  unfold IA
  rw [List.take_zero,List.nil_append,List.drop_eq_nil_of_le (by simp;omega),List.append_nil]
 rw [this]
 exact h
theorem KR{T T0:TypeId}{d:TypeDesc}{b id off:Nat}{z:Value}{x y:Operand}{cs:List D}{u:D}(hop:o.op = .store T x y)(hg:o.guard=none)(hds:o.dst=none)(hx:σ.arg x = .ptr id off)(hy:σ.arg y = .d u)(hh:σ.hp[id]? = some (.var T0 (cs.map .d)))(ht:Tab P T d 1 b z)(h1:One σ.hp (.d u))(hoff:off<cs.length)
  (h:AWl P s0 n ops Q rest { fr:=σ.fr,hp:=σ.hp.set id (.var T0 ((cs.set off u).map .d)) }):AWl P s0 n ops Q (o::rest) σ:=by
 refine TN hop hg hds hx hy hh ht h1 (by simpa using hoff) ?_
 have:(cs.map AV.d).set off (.d u)=(cs.set off u).map .d:=by rw [List.map_set]
 rw [this]
 exact h
theorem TQ{T:TypeId}{d:TypeDesc}{m b:Nat}{z:Value}(hop:o.op = .alloc T)(hg:o.guard=none)(ht:Tab P T d m b z)(hT:Nat.beq T 108=false)(h1:Gg z.cells.toList=true)(hd:UH o.dst n=true)(h:AWl P s0 n ops Q rest (σ.new o.dst (.ptr σ.hp.length 0) (.var T ((z.cells.toList.map ex).map .d)))):AWl P s0 n ops Q (o::rest) σ:=by
 refine AWl.alloc hop hg ht (Nat.ne_of_beq_eq_false hT) h1 hd ?_
 have:Xu z.cells.toList=(z.cells.toList.map ex).map .d:=by simp [Xu]
 rw [this]
 exact h
end
def A41(fr:List (Nat×AV)):Operand->Option AV
 | .tmp t=>CA fr t
 | .const v=>some (.d (ex v))
 | .global g=>some (.d (ex (.pointer (some ⟨g,0,none⟩))))
 | .func f=>some (.d (ex (.func (.func f) #[] #[])))
theorem ao{fr:List (Nat×AV)}{hp:List Ow}{x:Operand}{av:AV}(h:A41 fr x=some av):AS.arg ⟨fr,hp⟩ x=av:=by
 cases x with
 | tmp t=>
  show (CA fr t).getD (.d Dp)=av
  have h:CA fr t=some av:=h
  rw [h];rfl
 | const v=>exact Option.some.inj h
 | global g=>exact Option.some.inj h
 | func f=>exact Option.some.inj h
theorem Tp{α:Type}{P:Program}{hp:List Ow}{o:Oper}{arg:Operand->AV}{x:Operand}{t:TypeId}{e n b T sz:Nat}{z:Value}{f:α->List D}{l:List α}(hop:o.op = .call { callee:=.builtin .len,args:=#[x],argTypes:=#[t] })(hx:Ew hp (arg x)=some (slD T sz (l.map f)))(ht:Tab P t (.slice e) n b z):Quiet P hp o arg (.d (ex (.int .i64 (l.length:Nat)))):=by
 have:=Quiet.len (P:=P) hop hx ht
 rwa [List.length_map] at this
def KD:List (Nat×Nat)->Nat->Option Nat
 | [],_=>none
 | p::r,t=>bif Nat.beq p.1 t then some p.2 else KD r t
theorem Mm:∀{es:List (Nat×Nat)} {t j:Nat},KD es t=some j->∃p,es.find? (λp=>p.1==t)=some p/\p.2=j
 | [],_,_,h=>by cases h
 | p::r,t,j,h=>by
  unfold KD at h
  cases hb:Nat.beq p.1 t with
  | true=>rw [hb] at h;cases h;exact ⟨p,by rw [List.find?_cons,Nat.eq_of_beq_eq_true hb];simp,rfl⟩
  | false=>
   rw [hb] at h
   obtain ⟨q,h1,h2⟩:=Mm h
   refine ⟨q,?_,h2⟩
   rw [List.find?_cons]
   have:(p.1==t)=false:=by simpa using Nat.ne_of_beq_eq_false hb
   rw [this]
   exact h1
theorem Mn:∀{es:List (Nat×Nat)} {t:Nat},KD es t=none->es.find? (λp=>p.1==t)=none
 | [],_,_=>rfl
 | p::r,t,h=>by
  unfold KD at h
  cases hb:Nat.beq p.1 t with
  | true=>rw [hb] at h;cases h
  | false=>
   rw [hb] at h
   rw [List.find?_cons]
   have:(p.1==t)=false:=by simpa using Nat.ne_of_beq_eq_false hb
   rw [this]
   exact Mn h
def Fd:Option HR->Option AV
 | some (.av r)=>some r
 | _=>none
def A40(fr:List (Nat×AV))(rs:List HR)(es:List (Nat×Nat)):Operand->Option AV
 | .tmp t=>match KD es t with
  | some j=>Fd rs[j]?
  | none=>CA fr t
 | .const v=>some (.d (ex v))
 | .global _=>none
 | .func f=>some (.d (ex (.func (.func f) #[] #[])))
theorem ah{fr:List (Nat×AV)}{hp:List Ow}{rs:List HR}{es:List (Nat×Nat)}{x:Operand}{av:AV}(h:A40 fr rs es x=some av):MK ⟨fr,hp⟩ rs es x=av:=by
 cases x with
 | tmp t=>
  replace h:(match KD es t with
   | some j=>Fd rs[j]?
   | none=>CA fr t)=some av:=h
  show (match es.find? (λp=>p.1==t) with
   | some p=>match rs[p.2]? with
    | some h=>h.val
    | none=>.d Dp
   | none=>(CA fr t).getD (.d Dp))=av
  cases hf:KD es t with
  | some j=>
   rw [hf] at h
   replace h:Fd rs[j]? = some av:=h
   obtain ⟨p,h1,h2⟩:=Mm hf
   simp only [h1,h2]
   cases hr:rs[j]? with
   | none=>rw [hr] at h;cases h
   | some r=>
    rw [hr] at h
    cases r with
    | av r=>cases h;rfl
    | new T cs=>cases h
  | none=>
   rw [hf] at h
   simp only [Mn hf]
   have h:CA fr t=some av:=h
   rw [h];rfl
 | const v=>exact Option.some.inj h
 | global g=>cases h
 | func f=>exact Option.some.inj h
def Eo:List Ow->Ow->Option (List Ow)
 | [],x=>some [x]
 | o::l,x=>match Eo l x with
  | some r=>some (o::r)
  | none=>none
theorem DB:∀{l:List Ow} {x:Ow} {r:List Ow},Eo l x=some r->r=l++[x]
 | [],x,r,h=>by cases h;rfl
 | o::l,x,r,h=>by
  unfold Eo at h
  split at h
  .rename_i r' h'
   cases h
   rw [DB h']
   rfl
  .cases h
def Gz:List Ow->Option Nat
 | []=>some 0
 | _::l=>match Gz l with
  | some k=>some (k+1)
  | none=>none
theorem ED:∀{l:List Ow} {k:Nat},Gz l=some k->k=l.length
 | [],k,h=>by cases h;rfl
 | o::l,k,h=>by
  unfold Gz at h
  split at h
  .rename_i r' h'
   cases h
   rw [ED h']
   rfl
  .cases h
def DI:List Ow->Nat->Ow->Option (List Ow)
 | [],_,_=>none
 | _::l,0,x=>some (x::l)
 | o::l,i+1,x=>match DI l i x with
  | some r=>some (o::r)
  | none=>none
theorem CZ:∀{l:List Ow} {i:Nat} {x:Ow} {r:List Ow},DI l i x=some r->r=l.set i x
 | [],_,_,_,h=>by cases h
 | _::l,0,x,r,h=>by cases h;rfl
 | o::l,i+1,x,r,h=>by
  unfold DI at h
  split at h
  .rename_i r' h'
   cases h
   rw [CZ h']
   rfl
  .cases h
def exO:List Value->Option (List D)
 | []=>some []
 | v::l=>match exO l with
  | some r=>some (ex v::r)
  | none=>none
theorem Mq:∀{l:List Value} {r:List D},exO l=some r->r=l.map ex
 | [],r,h=>by cases h;rfl
 | v::l,r,h=>by
  unfold exO at h
  split at h
  .rename_i r' h'
   cases h
   rw [Mq h']
   rfl
  .cases h
def Lx:Nat->List D->Option (List D)
 | 0,_=>some []
 | _+1,[]=>none
 | n+1,d::l=>match Lx n l with
  | some r=>some (d::r)
  | none=>none
theorem Lw:∀{n:Nat} {l r:List D},Lx n l=some r->r=l.take n/\n<=l.length
 | 0,l,r,h=>by cases h;exact ⟨rfl,Nat.zero_le _⟩
 | n+1,[],r,h=>by cases h
 | n+1,d::l,r,h=>by
  unfold Lx at h
  split at h
  .rename_i r' h'
   cases h
   obtain ⟨h1,h2⟩:=Lw h'
   exact ⟨by rw [h1];rfl,by simpa using h2⟩
  .cases h
def XL:Nat->Nat->List D->Option (List D)
 | 0,n,l=>Lx n l
 | _+1,_,[]=>none
 | o+1,n,_::l=>XL o n l
theorem Ua:∀{o n:Nat} {l r:List D},XL o n l=some r->r=(l.drop o).take n/\o+n<=l.length
 | 0,n,l,r,h=>by
  obtain ⟨h1,h2⟩:=Lw (n:=n) (l:=l) (r:=r) (by cases l<;>exact h)
  exact ⟨h1,by omega⟩
 | o+1,n,[],r,h=>by cases h
 | o+1,n,d::l,r,h=>by
  obtain ⟨h1,h2⟩:=Ua (o:=o) (by exact h)
  exact ⟨h1,by simp;omega⟩
def Zn:Nat->List D->Option D
 | _,[]=>none
 | 0,d::_=>some d
 | i+1,_::l=>Zn i l
theorem Pw:∀{i:Nat} {l:List D} {d:D},Zn i l=some d->d=Cj l i/\i<l.length
 | i,[],d,h=>by cases i<;>cases h
 | 0,x::l,d,h=>by cases h;exact ⟨rfl,by simp⟩
 | i+1,x::l,d,h=>by
  obtain ⟨h1,h2⟩:=Pw (i:=i) (by exact h)
  exact ⟨h1,by simpa using h2⟩
def Yk:List D->List D->Option (List D)
 | [],r=>some r
 | d::l,r=>match Yk l r with
  | some x=>some (d::x)
  | none=>none
theorem Uq:∀{l r x:List D},Yk l r=some x->x=l++r
 | [],r,x,h=>by cases h;rfl
 | d::l,r,x,h=>by
  unfold Yk at h
  split at h
  .rename_i x' h'
   cases h
   rw [Uq h']
   rfl
  .cases h
def Mt:Nat->List D->Option (List D)
 | 0,l=>some l
 | _+1,[]=>none
 | n+1,_::l=>Mt n l
theorem Ms:∀{n:Nat} {l r:List D},Mt n l=some r->r=l.drop n/\n<=l.length
 | 0,l,r,h=>by cases l<;>(cases h;exact ⟨rfl,Nat.zero_le _⟩)
 | n+1,[],r,h=>by cases h
 | n+1,d::l,r,h=>by
  obtain ⟨h1,h2⟩:=Ms (n:=n) (by exact h)
  exact ⟨h1,by simpa using h2⟩
def Sr:List D->Nat->List D->Option (List D)
 | l,0,es=>match Mt es.length l with
  | some r=>Yk es r
  | none=>none
 | [],_+1,_=>none
 | d::l,o+1,es=>match Sr l o es with
  | some r=>some (d::r)
  | none=>none
theorem OI:∀{l:List D} {o:Nat} {es r:List D},Sr l o es=some r->r=Ny l o es/\o+es.length<=l.length
 | l,0,es,r,h=>by
  have h':(match Mt es.length l with
   | some r=>Yk es r
   | none=>none)=some r:=by cases l<;>exact h
  split at h'
  .rename_i r' h1
   obtain ⟨h2,h3⟩:=Ms h1
   rw [Uq h',h2]
   exact ⟨by simp [Ny],by omega⟩
  .cases h'
 | [],o+1,es,r,h=>by cases h
 | d::l,o+1,es,r,h=>by
  unfold Sr at h
  split at h
  .rename_i r' h1
   cases h
   obtain ⟨h2,h3⟩:=OI h1
   rw [h2]
   refine ⟨?_,by simp;omega⟩
   simp only [Ny,List.take_succ_cons,List.cons_append]
   rw [show o+1+es.length=(o+es.length)+1 by omega,List.drop_succ_cons]
  .cases h
def DW(id:Nat)(x:D):List (Nat×AV)->Option (List (Nat×AV))
 | []=>some []
 | (t,.own j)::l=>match DW id x l with
  | some r=>bif Nat.beq j id then some ((t,.d x)::r) else some ((t,.own j)::r)
  | none=>none
 | (t,.fn f caps)::l=>match DW id x l with
  | some r=>bif caps.contains id then some ((t,.d Dp)::r) else some ((t,.fn f caps)::r)
  | none=>none
 | (t,av)::l=>match DW id x l with
  | some r=>some ((t,av)::r)
  | none=>none
theorem HL{id:Nat}{x:D}:∀{l r:List (Nat×AV)},DW id x l=some r->r=l.map λp=>(p.1,down id x p.2)
 | [],r,h=>by cases h;rfl
 | (t,av)::l,r,h=>by
  have key:∃r',DW id x l=some r'/\r=(t,down id x av)::r':=by
   cases av with
   | d y=>
    replace h:(match DW id x l with
     | some r=>some ((t,.d y)::r)
     | none=>none)=some r:=h
    split at h
    .rename_i r' h';cases h;exact ⟨r',h',rfl⟩
    .cases h
   | fn f caps=>
    replace h:(match DW id x l with
     | some r=>bif caps.contains id then some ((t,.d Dp)::r) else some ((t,.fn f caps)::r)
     | none=>none)=some r:=h
    split at h
    .rename_i r' h'
     cases hb:caps.contains id with
     | true=>rw [hb] at h;cases h;exact ⟨r',h',by simp only [down,hb];rfl⟩
     | false=>rw [hb] at h;cases h;exact ⟨r',h',by simp only [down,hb];rfl⟩
    .cases h
   | ptr i o=>
    replace h:(match DW id x l with
     | some r=>some ((t,.ptr i o)::r)
     | none=>none)=some r:=h
    split at h
    .rename_i r' h';cases h;exact ⟨r',h',rfl⟩
    .cases h
   | own j=>
    replace h:(match DW id x l with
     | some r=>bif Nat.beq j id then some ((t,.d x)::r) else some ((t,.own j)::r)
     | none=>none)=some r:=h
    split at h
    .rename_i r' h'
     cases hb:Nat.beq j id with
     | true=>rw [hb] at h;cases h;exact ⟨r',h',by simp [down,hb]⟩
     | false=>rw [hb] at h;cases h;exact ⟨r',h',by simp [down,hb]⟩
    .cases h
  obtain ⟨r',h1,rfl⟩:=key
  rw [HL h1]
  rfl
def Ea(id:Nat):List AV->Bool
 | []=>true
 | .own j::l=>bif Nat.beq j id then false else Ea id l
 | .fn _ caps::l=>bif caps.contains id then false else Ea id l
 | _::l=>Ea id l
def EY(id:Nat):List Ow->Bool
 | []=>true
 | .var _ c::l=>Ea id c&&EY id l
 | .pin c::l=>Ea id (c.map (·.2))&&EY id l
 | _::l=>EY id l
theorem Ef{id:Nat}{x:D}:∀{l:List AV},Ea id l=true->l.map (down id x)=l
 | [],_=>rfl
 | .d y::l,h=>by rw [List.map_cons,Ef (by exact h)];rfl
 | .ptr _ _::l,h=>by rw [List.map_cons,Ef (by exact h)];rfl
 | .own j::l,h=>by
  replace h:(bif Nat.beq j id then false else Ea id l)=true:=h
  cases hb:Nat.beq j id with
  | true=>rw [hb] at h;cases h
  | false=>rw [hb] at h;rw [List.map_cons,Ef (by exact h)];simp only [down,hb];rfl
 | .fn f caps::l,h=>by
  replace h:(bif caps.contains id then false else Ea id l)=true:=h
  cases hb:caps.contains id with
  | true=>rw [hb] at h;cases h
  | false=>rw [hb] at h;rw [List.map_cons,Ef (by exact h)];simp only [down,hb];rfl
theorem LW{id:Nat}{x:D}:∀{l:List (Value×AV)},Ea id (l.map (·.2))=true->(l.map λp=>(p.1,down id x p.2))=l:=λ{l} h=>by
 have h1:=Ef (x:=x) h
 apply List.ext_getElem?
 intro k
 have h2:=congrArg (λy=>y[k]?) h1
 simp only [List.getElem?_map] at h2 ⊢
 cases hk:l[k]? with
 | none=>rfl
 | some p=>
  rw [hk] at h2
  simp only [Option.map_some,Option.some.injEq] at h2 ⊢
  rw [h2]
theorem CC{id:Nat}{x:D}:∀{l:List Ow},EY id l=true->l.map (Ow.mapA (down id x))=l
 | [],_=>rfl
 | .var T c::l,h=>by
  simp only [EY,Bool.and_eq_true] at h
  rw [List.map_cons,CC h.2]
  simp only [Ow.mapA,Ef h.1]
 | .pin c::l,h=>by
  simp only [EY,Bool.and_eq_true] at h
  rw [List.map_cons,CC h.2]
  simp only [Ow.mapA,LW h.1]
 | .dead::l,h=>by rw [List.map_cons,CC (by exact h)];rfl
 | .row _ _ _::l,h=>by rw [List.map_cons,CC (by exact h)];rfl
 | .obj _::l,h=>by rw [List.map_cons,CC (by exact h)];rfl
theorem Ky{id:Nat}:∀l:List D,Ea id (l.map .d)=true
 | []=>rfl
 | _::l=>Ky (id:=id) l
def PlainHp(id:Nat):List Ow->Prop
 | []=>True
 | .var _ c::l=>Ea id c=true/\PlainHp id l
 | .pin c::l=>Ea id (c.map (·.2))=true/\PlainHp id l
 | _::l=>PlainHp id l
theorem PlainHp.ok{id:Nat}:∀{l:List Ow},PlainHp id l->EY id l=true
 | [],_=>rfl
 | .var T c::l,h=>by simp only [EY,Bool.and_eq_true];exact ⟨h.1,PlainHp.ok h.2⟩
 | .pin c::l,h=>by simp only [EY,Bool.and_eq_true];exact ⟨h.1,PlainHp.ok h.2⟩
 | .dead::l,h=>PlainHp.ok (l:=l) h
 | .row _ _ _::l,h=>PlainHp.ok (l:=l) h
 | .obj _::l,h=>PlainHp.ok (l:=l) h
section
variable {id:Nat} {l:List Ow}
theorem PlainHp.nil:PlainHp id []:=trivial
theorem PlainHp.var{T:TypeId}{c:List D}(h:PlainHp id l):PlainHp id (.var T (c.map .d)::l):=⟨Ky c,h⟩
theorem CE{T:TypeId}{c:List AV}(hc:Ea id c=true)(h:PlainHp id l):PlainHp id (.var T c::l):=⟨hc,h⟩
theorem PlainHp.pin{c:List (Value×AV)}(hc:Ea id (c.map (·.2))=true)(h:PlainHp id l):PlainHp id (.pin c::l):=⟨hc,h⟩
theorem PlainHp.obj{O:OD}(h:PlainHp id l):PlainHp id (.obj O::l):=h
theorem PlainHp.dead(h:PlainHp id l):PlainHp id (.dead::l):=h
theorem CW{T sz:Nat}{r:List (List D)}(h:PlainHp id l):PlainHp id (.row T sz r::l):=h
end
def Px:List (Nat×AV)->List Ow->Nat->List Oper->List HR->Option AS
 | fr,hp,0,_,_=>some ⟨fr,hp⟩
 | fr,hp,m+1,o::L,.av r::rs=>match o.dst with
  | some d=>Px ((d,r)::fr) hp m L rs
  | none=>Px fr hp m L rs
 | fr,hp,m+1,o::L,.new T cs::rs=>match o.dst,Gz hp,exO cs with
  | some d,some k,some c=>match Eo hp (.var T (c.map .d)) with
   | some hp'=>Px ((d,.ptr k 0)::fr) hp' m L rs
   | none=>none
  | _,_,_=>none
 | _,_,_,_,_=>none
theorem Lk:∀{m:Nat} {fr:List (Nat×AV)} {hp:List Ow} {L:List Oper} {rs:List HR} {τ:AS},Px fr hp m L rs=some τ->rs.length=m->τ=AS.aft ⟨fr,hp⟩ (L.take m) rs
 | 0,fr,hp,L,rs,τ,h,hl=>by
  obtain rfl:rs=[]:=List.eq_nil_of_length_eq_zero hl
  cases L<;>(cases h;rfl)
 | m+1,fr,hp,[],[],τ,h,hl=>by cases hl
 | m+1,fr,hp,[],r::rs,τ,h,hl=>by cases r<;>cases h
 | m+1,fr,hp,o::L,[],τ,h,hl=>by cases hl
 | m+1,fr,hp,o::L,.av r::rs,τ,h,hl=>by
  rw [List.take_succ_cons]
  have hl:rs.length=m:=by simpa using hl
  unfold Px at h
  cases hd:o.dst with
  | some d=>
   rw [hd] at h
   have:=Lk h hl
   rw [this]
   simp only [AS.aft,AS.put,hd]
  | none=>
   rw [hd] at h
   have:=Lk h hl
   rw [this]
   simp only [AS.aft,AS.put,hd]
 | m+1,fr,hp,o::L,.new T cs::rs,τ,h,hl=>by
  rw [List.take_succ_cons]
  have hl:rs.length=m:=by simpa using hl
  unfold Px at h
  split at h
  .rename_i d k c hd hk hc
   split at h
   .rename_i hp' hs
    have:=Lk h hl
    rw [this]
    have e1:=DB hs
    have e2:=ED hk
    have e3:=Mq hc
    subst e1;subst e2;subst e3
    simp only [AS.aft,AS.new,AS.put,hd]
    congr 3
    simp [Xu]
   .cases h
  .cases h
section
variable {P:Program} {s0:An} {n:Nat} {ops:Array Oper} {Q:Exit->AS->Prop} {rest:List Oper} {o:Oper} {fr:List (Nat×AV)} {hp:List Ow}
theorem A3N{d:Nat}{r:AV}(hdst:o.dst=some d)(hg:o.guard=none)(hs:Cd o.op=true)(hd:Nat.blt d n=true)(hq:Quiet P hp o (AS.arg ⟨fr,hp⟩) r)(h:AWl P s0 n ops Q rest ⟨(d,r)::fr,hp⟩):AWl P s0 n ops Q (o::rest) ⟨fr,hp⟩:=
 Xp hg hs (by rw [hdst];exact hd) hq (by rw [hdst];exact h)
theorem A2Y{d:Nat}{r:AV}{j:Nat}{b:Bool}{e:Nat}(hg:o.guard=some (j,b))(hy:(ops[j]?).bind (·.dst)=some e)(hl:CA fr e=some (.d (ex (.bool b))))(hen:Nat.blt e n=true)(hdst:o.dst=some d)(hs:Cd o.op=true)(hd:Nat.blt d n=true)(hq:Quiet P hp o (AS.arg ⟨fr,hp⟩) r)(h:AWl P s0 n ops Q rest ⟨(d,r)::fr,hp⟩):AWl P s0 n ops Q (o::rest) ⟨fr,hp⟩:=
 TO hg hy hl (by simpa [Nat.blt_eq] using hen) hs (by rw [hdst];exact hd) hq (by rw [hdst];exact h)
theorem A2X{d:Nat}{j:Nat}{b:Bool}{u:Value}{e:Nat}(hg:o.guard=some (j,b))(hy:(ops[j]?).bind (·.dst)=some e)(hl:CA fr e=some (.d (ex u)))(hne:isB u b=false)(hen:Nat.blt e n=true)(hdst:o.dst=some d)(hd:Nat.blt d n=true)(h:AWl P s0 n ops Q rest ⟨(d,.d (ex undef))::fr,hp⟩):AWl P s0 n ops Q (o::rest) ⟨fr,hp⟩:=
 Xo hg hy hl hne (by simpa [Nat.blt_eq] using hen) (by rw [hdst];exact hd) (by rw [hdst];exact h)
theorem A32{T:TypeId}{d:TypeDesc}{m b k t:Nat}{z:Value}{c:List D}{hp':List Ow}(hop:o.op = .alloc T)(hdst:o.dst=some t)(hg:o.guard=none)(ht:Tab P T d m b z)(hT:Nat.beq T 108=false)(h1:Gg z.cells.toList=true)(hd:Nat.blt t n=true)(hc:exO z.cells.toList=some c)(hk:Gz hp=some k)(hs:Eo hp (.var T (c.map .d))=some hp')(h:AWl P s0 n ops Q rest ⟨(t,.ptr k 0)::fr,hp'⟩):AWl P s0 n ops Q (o::rest) ⟨fr,hp⟩:=by
 refine TQ hop hg ht hT h1 (by rw [hdst];exact hd) ?_
 rw [Mq hc] at hs
 rw [DB hs,ED hk] at h
 simp only [AS.new,AS.put,hdst]
 exact h
theorem A30{T:TypeId}{x:Operand}{ds:List D}{k t:Nat}{hp':List Ow}(hop:o.op = .box T x)(hdst:o.dst=some t)(hg:o.guard=none)(hx:AS.arg ⟨fr,hp⟩ x = .d (BF ds))(hT:Nat.beq T 108=false)(hd:Nat.blt t n=true)(hk:Gz hp=some k)(hs:Eo hp (.var T (ds.map .d))=some hp')(h:AWl P s0 n ops Q rest ⟨(t,.ptr k 0)::fr,hp'⟩):AWl P s0 n ops Q (o::rest) ⟨fr,hp⟩:=by
 refine AWl.box hop hg hx (Nat.ne_of_beq_eq_false hT) (by rw [hdst];exact hd) ?_
 rw [DB hs,ED hk] at h
 simp only [AS.new,AS.put,hdst]
 exact h
theorem A1x{T T0:TypeId}{d:TypeDesc}{b id m:Nat}{z:Value}{x y:Operand}{cells:List AV}{ds:List D}{hp':List Ow}(hop:o.op = .store T x y)(hg:o.guard=none)(hds:o.dst=none)(hx:AS.arg ⟨fr,hp⟩ x = .ptr id 0)(hy:AS.arg ⟨fr,hp⟩ y = .d (BF ds))(hh:hp[id]? = some (.var T0 cells))(ht:Tab P T d m b z)(hm:ds.length=m)(hoff:cells.length=m)(hs:DI hp id (.var T0 (ds.map .d))=some hp')
  (h:AWl P s0 n ops Q rest ⟨fr,hp'⟩):AWl P s0 n ops Q (o::rest) ⟨fr,hp⟩:=
 TL hop hg hds hx hy hh ht hm hoff (by rw [CZ hs] at h;exact h)
theorem A02{T T0:TypeId}{d:TypeDesc}{b id off:Nat}{z:Value}{x y:Operand}{cs cs':List D}{u:D}{hp':List Ow}(hop:o.op = .store T x y)(hg:o.guard=none)(hds:o.dst=none)(hx:AS.arg ⟨fr,hp⟩ x = .ptr id off)(hy:AS.arg ⟨fr,hp⟩ y = .d u)(hh:hp[id]? = some (.var T0 (cs.map .d)))(ht:Tab P T d 1 b z)(h1:One hp (.d u))(hc:Sr cs off [u]=some cs')(hs:DI hp id (.var T0 (cs'.map .d))=some hp')
  (h:AWl P s0 n ops Q rest ⟨fr,hp'⟩):AWl P s0 n ops Q (o::rest) ⟨fr,hp⟩:=by
 obtain ⟨e1,e2⟩:=OI hc
 have hlt:off<cs.length:=e2
 refine KR hop hg hds hx hy hh ht h1 hlt ?_
 rw [CZ hs,e1] at h
 have:Ny cs off [u]=cs.set off u:=by
  unfold Ny
  rw [List.set_eq_take_append_cons_drop,if_pos hlt]
  rfl
 rw [this] at h
 exact h
theorem AWl.app{x y:Operand}{t T T2 sz bytes id m b e:Nat}{z z':Value}{d:TypeDesc}{rows r2:List (List D)}{fr':List (Nat×AV)}{hp':List Ow}(hop:o.op = .call { callee:=.builtin .append,args:=#[x,y],argTypes:=#[t,t] })(hdst:o.dst=some e)(hg:o.guard=none)(hx:AS.arg ⟨fr,hp⟩ x = .own id)(hy:Ew hp (AS.arg ⟨fr,hp⟩ y)=some (slD T2 sz r2))(hh:hp[id]? = some (.row T sz rows))(ht:Tab P t (.slice T) m b z')(hT:Tab P T d sz bytes z)(hzs:z.cells.size=sz)(hd:Nat.blt e n=true)(hbytes:(rows.length+r2.length)*bytes<=140737488355328)(h63:rows.length+r2.length<=4611686018427387904)
  (hf:DW id (slD T sz rows) fr=some fr') (hpl:PlainHp id hp) (hs:DI hp id (.row T sz (rows++r2))=some hp') (h:AWl P s0 n ops Q rest ⟨(e,.own id)::fr',hp'⟩):AWl P s0 n ops Q (o::rest) ⟨fr,hp⟩:=by
 refine AWl.append hop hg hx hy hh ht hT hzs (by rw [hdst];exact hd) hbytes h63 ?_
 rw [CZ hs,HL hf] at h
 simp only [AS.appd,AS.put,hdst,CC hpl.ok]
 exact h
theorem A31{t T m b sz bytes k e:Nat}{z z':Value}{d:TypeDesc}{hp':List Ow}(hop:o.op = .buildSlice t 0 #[])(hdst:o.dst=some e)(hg:o.guard=none)(ht:Tab P t (.slice T) m b z')(hT:Tab P T d sz bytes z)(hT32:Nat.beq T 108=false)(h0:Nat.blt 0 sz=true)(hd:Nat.blt e n=true)(hk:Gz hp=some k)(hs:Eo hp (.row T sz [])=some hp')(h:AWl P s0 n ops Q rest ⟨(e,.own k)::fr,hp'⟩):AWl P s0 n ops Q (o::rest) ⟨fr,hp⟩:=by
 refine TP hop hg ht hT (Nat.ne_of_beq_eq_false hT32) (by simpa [Nat.blt_eq] using h0) (by rw [hdst];exact hd) ?_
 rw [DB hs,ED hk] at h
 simp only [AS.new,AS.put,hdst]
 exact h
theorem A1z{t T m b sz bytes k e:Nat}{z z':Value}{d:TypeDesc}{x y:Operand}{c:Int}{hp':List Ow}(hop:o.op = .makeSlice t x y)(hdst:o.dst=some e)(hg:o.guard=none)(hx:AS.arg ⟨fr,hp⟩ x = .d (ex (.int .i64 0)))(hy:AS.arg ⟨fr,hp⟩ y = .d (ex (.int .i64 c)))(ht:Tab P t (.slice T) m b z')(hT:Tab P T d sz bytes z)(hc0:0<=c)(hc:c<=1000000000)(hbytes:Nat.ble bytes 65536=true)(hT32:Nat.beq T 108=false)(h0:Nat.blt 0 sz=true)(hd:Nat.blt e n=true)(hk:Gz hp=some k)(hs:Eo hp (.row T sz [])=some hp')(h:AWl P s0 n ops Q rest ⟨(e,.own k)::fr,hp'⟩):AWl P s0 n ops Q (o::rest) ⟨fr,hp⟩:=by
 refine Xr hop hg hx hy ht hT hc0 hc (Nat.le_of_ble_eq_true hbytes) (Nat.ne_of_beq_eq_false hT32) (by simpa [Nat.blt_eq] using h0) (by rw [hdst];exact hd) ?_
 rw [DB hs,ED hk] at h
 simp only [AS.new,AS.put,hdst]
 exact h
theorem AWp.dr{id:Nat}{L0:Array Oper}{L:List Oper}{Q0:Exit->AS->Prop}{τ:AS}(hm:DrawOk P s0 n id L0 L Q0 Q)(es:List (List (Nat×Nat)))(bs:List (List Nat))(rs:List HR)(hlen:(es.length==bs.length&&es.length==rs.length&&Nat.ble rs.length L.length)=true)(hok:CG L (DU 0 es bs)=true)(hd:EO L es.length n=true)(steps:HSteps P ⟨fr,hp⟩ rs L es rs)
  (ha:Px fr hp rs.length L rs=some τ) (tail:AWl P s0 n L.toArray Q (L.drop es.length) τ):AWp P s0 n (.region id L0 true) Q0 ⟨fr,hp⟩:=by
 refine A01 hm es bs rs hlen hok hd steps ?_
 simp only [Bool.and_eq_true,beq_iff_eq] at hlen
 rw [hlen.1.2,<-Lk ha rfl,<-hlen.1.2]
 exact tail
end
section
variable {P:Program} {hp:List Ow} {o:Oper} {arg:Operand->AV}
theorem WX{x:Operand}{t:TypeId}{d:TypeDesc}{n b T:Nat}{z:Value}{ds r:List D}(hop:o.op = .load t x)(hx:arg x = .d (Is T ds))(ht:Tab P t d n b z)(hd:Ec d=true)(hr:Lx n ds=some r):Quiet P hp o arg (.d (BF r)):=by
 obtain ⟨e1,e2⟩:=Lw hr
 rw [e1]
 exact KO hop hx ht hd e2
theorem Tr{x:Operand}{t:TypeId}{d:TypeDesc}{n b T:Nat}{z:Value}{ds:List D}{r:D}(hop:o.op = .load t x)(hx:arg x = .d (Is T ds))(ht:Tab P t d n b z)(hd:Ec d=false)(hr:Zn 0 ds=some r):Quiet P hp o arg (.d r):=by
 obtain ⟨e1,e2⟩:=Pw hr
 rw [e1]
 exact PM hop hx ht hd e2
theorem WY{x:Operand}{t:TypeId}{d:TypeDesc}{n b T id off:Nat}{z:Value}{ds r:List D}(hop:o.op = .load t x)(hx:arg x = .ptr id off)(hh:hp[id]? = some (.var T (ds.map .d)))(ht:Tab P t d n b z)(hd:Ec d=true)(hr:XL off n ds=some r):Quiet P hp o arg (.d (BF r)):=by
 obtain ⟨e1,e2⟩:=Ua hr
 rw [e1]
 exact RK hop hx hh ht hd (Nat.ble_eq_true_of_le e2)
theorem Ts{x:Operand}{t:TypeId}{d:TypeDesc}{n b T id off:Nat}{z:Value}{ds:List D}{r:D}(hop:o.op = .load t x)(hx:arg x = .ptr id off)(hh:hp[id]? = some (.var T (ds.map .d)))(ht:Tab P t d n b z)(hd:Ec d=false)(hr:Zn off ds=some r):Quiet P hp o arg (.d r):=by
 obtain ⟨e1,e2⟩:=Pw hr
 rw [e1]
 exact JD hop hx hh ht hd e2
theorem Quiet.ext{x:Operand}{i:Nat}{ds:List D}{r:D}(hop:o.op = .extract x i)(hx:arg x = .d (CK ds))(hr:Zn i ds=some r):Quiet P hp o arg (.d r):=by
 obtain ⟨e1,e2⟩:=Pw hr
 rw [e1]
 exact Quiet.extract hop hx e2
theorem Tu{x:Operand}{S:TypeId}{fs:Array Field}{f n b n' b' T:Nat}{fd:Field}{d:TypeDesc}{z z':Value}{ds r:List D}(hop:o.op = .fieldAddr S x f)(hx:arg x = .d (Is T ds))(hS:Tab P S (.struct fs) n b z)(hf:fs[f]? = some fd)(he:Tab P fd.type d n' b' z')(hn:Nat.beq n' 0=false)(hr:Mt fd.offset ds=some r):Quiet P hp o arg (.d (Is T r)):=by
 obtain ⟨e1,e2⟩:=Ms hr
 rw [e1]
 exact PR hop hx hS hf he (Nat.ne_of_beq_eq_false hn)
theorem Tt{x:Operand}{S:TypeId}{fs:Array Field}{f n b n' b' id off:Nat}{fd:Field}{d:TypeDesc}{z z':Value}(hop:o.op = .fieldAddr S x f)(hx:arg x = .ptr id off)(hS:Tab P S (.struct fs) n b z)(hf:fs[f]? = some fd)(he:Tab P fd.type d n' b' z')(hn:Nat.beq n' 0=false):Quiet P hp o arg (.ptr id (off+fd.offset)):=
 PQ hop hx hS hf he (Nat.ne_of_beq_eq_false hn)
end
def ER:BinOp->Int->Int->Prop
 | .eql,a,b=>a=b
 | .neq,a,b=>a≠b
 | .lss,a,b=>a<b
 | .leq,a,b=>a<=b
 | .gtr,a,b=>b<a
 | .geq,a,b=>b<=a
 | _,_,_=>False
def NT:BinOp->Bool
 | .eql | .neq | .lss | .leq | .gtr | .geq=>true
 | _=>false
section
variable {P:Program} {hp:List Ow} {o:Oper} {arg:Operand->AV}
theorem Tw{op:BinOp}{T U:TypeId}{x y:Operand}{k:IntKind}{a b:Int}(hop:o.op = .binOp op T x y U)(hb:NT op=true)(hx:arg x = .d (ex (.int k a)))(hy:arg y = .d (ex (.int k b)))(hc:ER op a b):Quiet P hp o arg (.d (ex (.bool true))):=by
 refine Kn hop hx hy ?_
 cases op<;>first | (simp only [ER] at hc;simp [Rk,hc];done) | (simp only [ER] at hc;simp [Rk];omega) | exact absurd hb (by decide)
theorem Tx{op:BinOp}{T U:TypeId}{x y:Operand}{k:IntKind}{a b:Int}(hop:o.op = .binOp op T x y U)(hb:NT op=true)(hx:arg x = .d (ex (.int k a)))(hy:arg y = .d (ex (.int k b)))(hc:¬ER op a b):Quiet P hp o arg (.d (ex (.bool false))):=by
 refine Kn hop hx hy ?_
 cases op<;>first | (simp only [ER] at hc;simp [Rk,hc];done) | (simp only [ER] at hc;simp [Rk];omega) | exact absurd hb (by decide)
theorem PP{α:Type}{x y:Operand}{t:TypeId}{e n b n' b' T sz:Nat}{d:TypeDesc}{z z':Value}{f:α->List D}{a:α}{l:List α}{κ:IntKind}(hop:o.op = .indexAddr t x y)(hx:Ew hp (arg x)=some (slD T sz ((a::l).map f)))(hy:arg y = .d (ex (.int κ 0)))(ht:Tab P t (.slice e) n b z)(he:Tab P e d n' b' z')(hsz:n'=sz):Quiet P hp o arg (.d (Is T (f a))):=
 Quiet.index (P:=P) (hp:=hp) hop hx hy ht he hsz (by omega) (by simp)
theorem RL{α:Type}{x y:Operand}{t:TypeId}{e n b n' b' T sz i:Nat}{d:TypeDesc}{z z':Value}{f:α->List D}{l:List α}(hop:o.op = .slice t x (some y) none none)(hx:Ew hp (arg x)=some (slD T sz (l.map f)))(hy:arg y = .d (ex (.int .i64 (i:Nat))))(ht:Tab P t (.slice e) n b z)(he:Tab P e d n' b' z')(hsz:n'=sz)(hi:i<=l.length):Quiet P hp o arg (.d (slD T sz ((l.drop i).map f))):=by
 have h:=Quiet.slice (P:=P) (hp:=hp) (i:=(i:Nat)) (j:=((l.map f).length:Nat)) hop hx ht he hsz (.inl ⟨y,rfl,hy⟩) (.inr ⟨rfl,rfl⟩) (by omega) (by simp;omega) (by omega)
 have e1:((l.map f).take (((l.map f).length:Nat):Int).toNat).drop ((i:Nat):Int).toNat=(l.drop i).map f:=by
  rw [show (((l.map f).length:Nat):Int).toNat=(l.map f).length from rfl,List.take_length,List.map_drop]
  rfl
 rwa [e1] at h
theorem RG{α:Type}{x y:Operand}{t:TypeId}{e n b n' b' T sz:Nat}{d:TypeDesc}{z z':Value}{f:α->List D}{a:α}{l:List α}(hop:o.op = .slice t x (some y) none none)(hx:Ew hp (arg x)=some (slD T sz ((a::l).map f)))(hy:arg y = .d (ex (.int .i64 1)))(ht:Tab P t (.slice e) n b z)(he:Tab P e d n' b' z')(hsz:n'=sz):Quiet P hp o arg (.d (slD T sz (l.map f))):=
 RL (l:=a::l) (i:=1) hop hx hy ht he hsz (by simp)
theorem RF{α:Type}{x y:Operand}{t:TypeId}{e n b n' b' T sz i:Nat}{d:TypeDesc}{z z':Value}{f:α->List D}{l:List α}(hop:o.op = .slice t x none (some y) none)(hx:Ew hp (arg x)=some (slD T sz (l.map f)))(hy:arg y = .d (ex (.int .i64 (i:Nat))))(ht:Tab P t (.slice e) n b z)(he:Tab P e d n' b' z')(hsz:n'=sz)(hi:i<=l.length):Quiet P hp o arg (.d (slD T sz ((l.take i).map f))):=by
 have h:=Quiet.slice (P:=P) (hp:=hp) (i:=0) (j:=(i:Nat)) hop hx ht he hsz (.inr ⟨rfl,rfl⟩) (.inl ⟨y,rfl,hy⟩) (by omega) (by omega) (by simp;omega)
 have e1:((l.map f).take ((i:Nat):Int).toNat).drop ((0:Nat):Int).toNat=(l.take i).map f:=by
  show ((l.map f).take i).drop 0=_
  rw [List.drop_zero,List.map_take]
 exact e1▸h
end
theorem Dn{α:Type}(f:α->List D)(l:List α)(a:α):l.map f++[f a]=(l++[a]).map f:=by simp
theorem A2Z{P:Program}{s0:An}{n:Nat}{ops:Array Oper}{Q:Exit->AS->Prop}{rest:List Oper}{o:Oper}{fr:List (Nat×AV)}{hp:List Ow}{d:Nat}(hdst:o.dst=some d)(hg:o.guard=none)(hs:Cd o.op=true)(hd:Nat.blt d n=true)(h:∃r,Quiet P hp o (AS.arg ⟨fr,hp⟩) r/\AWl P s0 n ops Q rest ⟨(d,r)::fr,hp⟩):AWl P s0 n ops Q (o::rest) ⟨fr,hp⟩:=by
 obtain ⟨r,h1,h2⟩:=h
 exact A3N hdst hg hs hd h1 h2
theorem A1y{P:Program}{s0:An}{n:Nat}{ops:Array Oper}{Q:Exit->AS->Prop}{rest:List Oper}{o:Oper}{fr:List (Nat×AV)}{hp:List Ow}{d:Nat}{j:Nat}{b:Bool}{e:Nat}(hg:o.guard=some (j,b))(hy:(ops[j]?).bind (·.dst)=some e)(hl:CA fr e=some (.d (ex (.bool b))))(hen:Nat.blt e n=true)(hdst:o.dst=some d)(hs:Cd o.op=true)(hd:Nat.blt d n=true)(h:∃r,Quiet P hp o (AS.arg ⟨fr,hp⟩) r/\AWl P s0 n ops Q rest ⟨(d,r)::fr,hp⟩):AWl P s0 n ops Q (o::rest) ⟨fr,hp⟩:=by
 obtain ⟨r,h1,h2⟩:=h
 exact A2Y hg hy hl hen hdst hs hd h1 h2
def Ks:List HR->HR->Option (List HR)
 | [],x=>some [x]
 | o::l,x=>match Ks l x with
  | some r=>some (o::r)
  | none=>none
theorem Qk:∀{l:List HR} {x:HR} {r:List HR},Ks l x=some r->r=l++[x]
 | [],x,r,h=>by cases h;rfl
 | o::l,x,r,h=>by
  unfold Ks at h
  split at h
  .rename_i r' h'
   cases h
   rw [Qk h']
   rfl
  .cases h
def HS(P:Program)(σ:AS)(K:List HR->Prop):List HR->List Oper->List (List (Nat×Nat))->Prop
 | acc,_,[]=>K acc
 | acc,o::L,e::es=>∃r,HStep P σ acc e o r/\∃acc',Ks acc r=some acc'/\HS P σ K acc' L es
 | _,[],_::_=>False
def JA:Nat->List Oper->List (List (Nat×Nat))->Bool
 | _,_,[]=>true
 | i,o::L,e::es=>e.all (λp=>Nat.blt p.2 i)&&(match o.guard with | some (j,_)=>Nat.blt j i | none=>true)&&JA (i+1) L es
 | _,[],_::_=>false
theorem Of{σ:AS}{acc more:List HR}{es:List (Nat×Nat)}(h:∀p∈es,p.2<acc.length):MK σ (acc++more) es=MK σ acc es:=by
 funext x
 cases x with
 | tmp t=>
  show (match es.find? (λp=>p.1==t) with
   | some p=>match (acc++more)[p.2]? with
    | some h=>h.val
    | none=>.d Dp
   | none=>_)=(match es.find? (λp=>p.1==t) with
   | some p=>match acc[p.2]? with
    | some h=>h.val
    | none=>.d Dp
   | none=>_)
  cases hf:es.find? (λp=>p.1==t) with
  | none=>rfl
  | some p=>
   simp only
   rw [List.getElem?_append_left (h p (List.mem_of_find?_eq_some hf))]
 | const v=>rfl
 | global g=>rfl
 | func f=>rfl
theorem HStep.more{P:Program}{σ:AS}{acc more:List HR}{e:List (Nat×Nat)}{o:Oper}{r:HR}(h:HStep P σ acc e o r)(he:∀p∈e,p.2<acc.length)(hg:∀j b,o.guard=some (j,b)->j<acc.length):HStep P σ (acc++more) e o r:=by
 cases r with
 | av r=>
  rcases h with ⟨h1,h2⟩ | ⟨j,b,c,h1,h2,h3⟩
  .exact .inl ⟨h1,by rw [Of he];exact h2⟩
  .refine .inr ⟨j, b, c, h1, by rw [List.getElem?_append_left (hg j b h1)]; exact h2, ?_⟩
   rw [Of he]
   exact h3
 | new T cs=>exact h
theorem RS{P:Program}{σ:AS}{K:List HR->Prop}:∀{es:List (List (Nat×Nat))} {L:List Oper} {acc:List HR},JA acc.length L es=true->HS P σ K acc L es->∃more,more.length=es.length/\HSteps P σ (acc++more) L es more/\K (acc++more)
 | [],L,acc,_,h=>by
  refine ⟨[],rfl,HSteps.nil,?_⟩
  rw [List.append_nil]
  cases L<;>exact h
 | e::es,[],acc,he,h=>by cases he
 | e::es,o::L,acc,he,h=>by
  obtain ⟨r,h1,acc',h2,h3⟩:=h
  have e1:=Qk h2
  subst e1
  simp only [JA,Bool.and_eq_true] at he
  obtain ⟨⟨he1,he2⟩,he3⟩:=he
  obtain ⟨more,h4,h5,h6⟩:=RS (acc:=acc++[r]) (by simpa using he3) h3
  rw [List.append_assoc,List.singleton_append] at h5 h6
  refine ⟨r::more,by simp [h4],⟨h1.more (λp hp=>?_) λj b hj=>?_,h5⟩,h6⟩
  .have:=List.all_eq_true.1 he1 p hp
   simpa [Nat.blt_eq] using this
  .rw [hj] at he2
   simpa [Nat.blt_eq] using he2
theorem Hc{P:Program}{s0:An}{n:Nat}{Q Q0:Exit->AS->Prop}{fr:List (Nat×AV)}{hp:List Ow}{id:Nat}{L0:Array Oper}{L:List Oper}(hm:DrawOk P s0 n id L0 L Q0 Q)(es:List (List (Nat×Nat)))(bs:List (List Nat))(hlen:(es.length==bs.length&&Nat.ble es.length L.length)=true)(hok:CG L (DU 0 es bs)=true)(hd:EO L es.length n=true)(hlt:JA 0 L es=true)
  (h:HS P ⟨fr,hp⟩ (λrs=>∃τ,Px fr hp es.length L rs=some τ/\AWl P s0 n L.toArray Q (L.drop es.length) τ) [] L es):AWp P s0 n (.region id L0 true) Q0 ⟨fr,hp⟩:=by
 obtain ⟨rs,h1,h2,τ,h3,h4⟩:=RS (acc:=[]) hlt h
 simp only [List.nil_append] at h2 h3
 simp only [Bool.and_eq_true,beq_iff_eq] at hlen
 exact AWp.dr hm es bs rs (by simp only [Bool.and_eq_true,beq_iff_eq];exact ⟨⟨hlen.1,h1.symm⟩,by rw [h1];exact hlen.2⟩) hok hd h2 (by rw [h1];exact h3) h4
section
variable {P:Program} {hp:List Ow} {arg:Operand->AV} {dd:Option Tmp} {ty:TypeId} {ps:String} {af:Array Edge} {gd:Option (Nat×Bool)}
theorem A2H{x:Operand}{t:TypeId}{e n b T sz:Nat}{z:Value}{rows:List (List D)}(hx:Ew hp (arg x)=some (slD T sz rows))(ht:Tab P t (.slice e) n b z):Quiet P hp ⟨dd,.call { callee:=.builtin .len,args:=#[x],argTypes:=#[t] },ty,ps,af,gd⟩ arg (.d (ex (.int .i64 rows.length))):=Quiet.len (o:=⟨dd,.call { callee:=.builtin .len,args:=#[x],argTypes:=#[t] },ty,ps,af,gd⟩) rfl hx ht
theorem JE{α:Type}{x:Operand}{t:TypeId}{e n b T sz:Nat}{z:Value}{f:α->List D}{l:List α}(hx:Ew hp (arg x)=some (slD T sz (l.map f)))(ht:Tab P t (.slice e) n b z):Quiet P hp ⟨dd,.call { callee:=.builtin .len,args:=#[x],argTypes:=#[t] },ty,ps,af,gd⟩ arg (.d (ex (.int .i64 (l.length:Nat)))):=Tp (o:=⟨dd,.call { callee:=.builtin .len,args:=#[x],argTypes:=#[t] },ty,ps,af,gd⟩) rfl hx ht
theorem Xb{α:Type}{x y:Operand}{t:TypeId}{e n b n' b' T sz:Nat}{d:TypeDesc}{z z':Value}{f:α->List D}{a:α}{l:List α}{κ:IntKind}(hx:Ew hp (arg x)=some (slD T sz ((a::l).map f)))(hy:arg y = .d (ex (.int κ 0)))(ht:Tab P t (.slice e) n b z)(he:Tab P e d n' b' z')(hsz:n'=sz):Quiet P hp ⟨dd,.indexAddr t x y,ty,ps,af,gd⟩ arg (.d (Is T (f a))):=PP (o:=⟨dd,.indexAddr t x y,ty,ps,af,gd⟩) rfl hx hy ht he hsz
theorem ZJ{α:Type}{x y:Operand}{t:TypeId}{e n b n' b' T sz:Nat}{d:TypeDesc}{z z':Value}{f:α->List D}{a:α}{l:List α}(hx:Ew hp (arg x)=some (slD T sz ((a::l).map f)))(hy:arg y = .d (ex (.int .i64 1)))(ht:Tab P t (.slice e) n b z)(he:Tab P e d n' b' z')(hsz:n'=sz):Quiet P hp ⟨dd,.slice t x (some y) none none,ty,ps,af,gd⟩ arg (.d (slD T sz (l.map f))):=RG (o:=⟨dd,.slice t x (some y) none none,ty,ps,af,gd⟩) rfl hx hy ht he hsz
theorem ZI{α:Type}{x y:Operand}{t:TypeId}{e n b n' b' T sz i:Nat}{d:TypeDesc}{z z':Value}{f:α->List D}{l:List α}(hx:Ew hp (arg x)=some (slD T sz (l.map f)))(hy:arg y = .d (ex (.int .i64 (i:Nat))))(ht:Tab P t (.slice e) n b z)(he:Tab P e d n' b' z')(hsz:n'=sz)(hi:i<=l.length):Quiet P hp ⟨dd,.slice t x none (some y) none,ty,ps,af,gd⟩ arg (.d (slD T sz ((l.take i).map f))):=RF (o:=⟨dd,.slice t x none (some y) none,ty,ps,af,gd⟩) rfl hx hy ht he hsz hi
theorem DQ{α:Type}[Inhabited α]{x y:Operand}{t:TypeId}{e n b n' b' T sz k:Nat}{d:TypeDesc}{z z':Value}{f:α->List D}{l:List α}{κ:IntKind}(hx:Ew hp (arg x)=some (slD T sz (l.map f)))(hy:arg y = .d (ex (.int κ (k:Nat))))(ht:Tab P t (.slice e) n b z)(he:Tab P e d n' b' z')(hsz:n'=sz)(hk:k<l.length):Quiet P hp ⟨dd,.indexAddr t x y,ty,ps,af,gd⟩ arg (.d (Is T (f (l.getD k default)))):=PO (o:=⟨dd,.indexAddr t x y,ty,ps,af,gd⟩) rfl hx hy ht he hsz hk
theorem A2L{T U:TypeId}{x y:Operand}{a b:Int}(hx:arg x = .d (ex (.int .i64 a)))(hy:arg y = .d (ex (.int .i64 b)))(h1:-9223372036854775808<=a+b)(h2:a+b<=9223372036854775807):Quiet P hp ⟨dd,.binOp .add T x y U,ty,ps,af,gd⟩ arg (.d (ex (.int .i64 (a+b)))):=Quiet.add (o:=⟨dd,.binOp .add T x y U,ty,ps,af,gd⟩) rfl hx hy h1 h2
theorem A2A{T U:TypeId}{x y:Operand}{a b:Int}(hx:arg x = .d (ex (.int .i64 a)))(hy:arg y = .d (ex (.int .i64 b)))(h1:-9223372036854775808<=a-b)(h2:a-b<=9223372036854775807):Quiet P hp ⟨dd,.binOp .sub T x y U,ty,ps,af,gd⟩ arg (.d (ex (.int .i64 (a-b)))):=Quiet.sub (o:=⟨dd,.binOp .sub T x y U,ty,ps,af,gd⟩) rfl hx hy h1 h2
theorem A2F{T U:TypeId}{x y:Operand}{a b:Int}(hx:arg x = .d (ex (.int .i64 a)))(hy:arg y = .d (ex (.int .i64 b)))(h1:-9223372036854775808<=a*b)(h2:a*b<=9223372036854775807):Quiet P hp ⟨dd,.binOp .mul T x y U,ty,ps,af,gd⟩ arg (.d (ex (.int .i64 (a*b)))):=Quiet.mul (o:=⟨dd,.binOp .mul T x y U,ty,ps,af,gd⟩) rfl hx hy h1 h2
theorem UN{T U:TypeId}{x y:Operand}{a:Nat}(hx:arg x = .d (ex (.int .i64 (a:Nat))))(hy:arg y = .d (ex (.int .i64 1)))(h1:(a:Int)<9223372036854775807):Quiet P hp ⟨dd,.binOp .add T x y U,ty,ps,af,gd⟩ arg (.d (ex (.int .i64 ((a+1:Nat):Int)))):=Tl (o:=⟨dd,.binOp .add T x y U,ty,ps,af,gd⟩) rfl hx hy h1
theorem A2C{T U:TypeId}{x y:Operand}{a b:Int}(hx:arg x = .d (ex (.int .i64 a)))(hy:arg y = .d (ex (.int .i64 b)))(h0:0<=a)(h1:a<=9223372036854775807)(hb:0<b):Quiet P hp ⟨dd,.binOp .quo T x y U,ty,ps,af,gd⟩ arg (.d (ex (.int .i64 (a/b)))):=Quiet.quo (o:=⟨dd,.binOp .quo T x y U,ty,ps,af,gd⟩) rfl hx hy h0 h1 hb
theorem A2B{T U:TypeId}{x y:Operand}{k:IntKind}{a b:Int}(hx:arg x = .d (ex (.int k a)))(hy:arg y = .d (ex (.int k b)))(h0:0<=a)(hb:0<b):Quiet P hp ⟨dd,.binOp .rem T x y U,ty,ps,af,gd⟩ arg (.d (ex (.int k (a%b)))):=Quiet.rem (o:=⟨dd,.binOp .rem T x y U,ty,ps,af,gd⟩) rfl hx hy h0 hb
theorem PS{T U:TypeId}{x y:Operand}{k:IntKind}{a b:Int}(hx:arg x = .d (ex (.int k a)))(hy:arg y = .d (ex (.int k b)))(hb:b≠0):Quiet P hp ⟨dd,.binOp .rem T x y U,ty,ps,af,gd⟩ arg (.d (ex (.int k (a.tmod b)))):=Tn (o:=⟨dd,.binOp .rem T x y U,ty,ps,af,gd⟩) rfl hx hy hb
theorem A2K{op:BinOp}{T U:TypeId}{x y:Operand}{k:IntKind}{a b:Int}{c:Bool}(hx:arg x = .d (ex (.int k a)))(hy:arg y = .d (ex (.int k b)))(hc:Rk op a b=some c):Quiet P hp ⟨dd,.binOp op T x y U,ty,ps,af,gd⟩ arg (.d (ex (.bool c))):=Kn (o:=⟨dd,.binOp op T x y U,ty,ps,af,gd⟩) rfl hx hy hc
theorem UQ{op:BinOp}{T U:TypeId}{x y:Operand}{k:IntKind}{a b:Int}(hb:NT op=true)(hx:arg x = .d (ex (.int k a)))(hy:arg y = .d (ex (.int k b)))(hc:ER op a b):Quiet P hp ⟨dd,.binOp op T x y U,ty,ps,af,gd⟩ arg (.d (ex (.bool true))):=Tw (o:=⟨dd,.binOp op T x y U,ty,ps,af,gd⟩) rfl hb hx hy hc
theorem PT{op:BinOp}{T U:TypeId}{x y:Operand}{k:IntKind}{a b:Int}(hb:NT op=true)(hx:arg x = .d (ex (.int k a)))(hy:arg y = .d (ex (.int k b)))(hc:¬ER op a b):Quiet P hp ⟨dd,.binOp op T x y U,ty,ps,af,gd⟩ arg (.d (ex (.bool false))):=Tx (o:=⟨dd,.binOp op T x y U,ty,ps,af,gd⟩) rfl hb hx hy hc
theorem A2D{T:TypeId}{x:Operand}{a:Bool}(hx:arg x = .d (ex (.bool a))):Quiet P hp ⟨dd,.unOp .not T x,ty,ps,af,gd⟩ arg (.d (ex (.bool (!a)))):=Quiet.not (o:=⟨dd,.unOp .not T x,ty,ps,af,gd⟩) rfl hx
theorem ZK{c x y:Operand}{r:AV}(hx:arg x=r)(hc:arg c = .d (ex (.bool true))):Quiet P hp ⟨dd,.pick c x y,ty,ps,af,gd⟩ arg r:=RH (o:=⟨dd,.pick c x y,ty,ps,af,gd⟩) rfl hx hc
theorem ZL{c x y:Operand}{r:AV}(hy:arg y=r)(hc:arg c = .d (ex (.bool false))):Quiet P hp ⟨dd,.pick c x y,ty,ps,af,gd⟩ arg r:=RI (o:=⟨dd,.pick c x y,ty,ps,af,gd⟩) rfl hy hc
theorem A1j{S T:TypeId}{x:Operand}{k k':IntKind}{a:Int}{d:TypeDesc}{n b n' b':Nat}{z z':Value}(hx:arg x = .d (ex (.int k a)))(hS:Tab P S d n b z)(hT:Tab P T (.int k') n' b' z'):Quiet P hp ⟨dd,.convert S T x,ty,ps,af,gd⟩ arg (.d (ex (.int k' (k'.wrap a)))):=Tv (o:=⟨dd,.convert S T x,ty,ps,af,gd⟩) rfl hx hS hT
theorem UP{x:Operand}{S:TypeId}{fs:Array Field}{f n b n' b' T:Nat}{fd:Field}{d:TypeDesc}{z z':Value}{ds r:List D}(hx:arg x = .d (Is T ds))(hS:Tab P S (.struct fs) n b z)(hf:fs[f]? = some fd)(he:Tab P fd.type d n' b' z')(hn:Nat.beq n' 0=false)(hr:Mt fd.offset ds=some r):Quiet P hp ⟨dd,.fieldAddr S x f,ty,ps,af,gd⟩ arg (.d (Is T r)):=Tu (o:=⟨dd,.fieldAddr S x f,ty,ps,af,gd⟩) rfl hx hS hf he hn hr
theorem A1i{x:Operand}{S:TypeId}{fs:Array Field}{f n b n' b' id off:Nat}{fd:Field}{d:TypeDesc}{z z':Value}(hx:arg x = .ptr id off)(hS:Tab P S (.struct fs) n b z)(hf:fs[f]? = some fd)(he:Tab P fd.type d n' b' z')(hn:Nat.beq n' 0=false):Quiet P hp ⟨dd,.fieldAddr S x f,ty,ps,af,gd⟩ arg (.ptr id (off+fd.offset)):=Tt (o:=⟨dd,.fieldAddr S x f,ty,ps,af,gd⟩) rfl hx hS hf he hn
theorem A2I{x:Operand}{t:TypeId}{d:TypeDesc}{n b T id off:Nat}{z:Value}{ds r:List D}(hx:arg x = .ptr id off)(hh:hp[id]? = some (.var T (ds.map .d)))(ht:Tab P t d n b z)(hd:Ec d=true)(hr:XL off n ds=some r):Quiet P hp ⟨dd,.load t x,ty,ps,af,gd⟩ arg (.d (BF r)):=WY (o:=⟨dd,.load t x,ty,ps,af,gd⟩) rfl hx hh ht hd hr
theorem A1h{x:Operand}{t:TypeId}{d:TypeDesc}{n b T id off:Nat}{z:Value}{ds:List D}{r:D}(hx:arg x = .ptr id off)(hh:hp[id]? = some (.var T (ds.map .d)))(ht:Tab P t d n b z)(hd:Ec d=false)(hr:Zn off ds=some r):Quiet P hp ⟨dd,.load t x,ty,ps,af,gd⟩ arg (.d r):=Ts (o:=⟨dd,.load t x,ty,ps,af,gd⟩) rfl hx hh ht hd hr
theorem Oq{x:Operand}{t:TypeId}{d:TypeDesc}{n b T:Nat}{z:Value}{ds:List D}(hx:arg x = .d (Is T ds))(ht:Tab P t d n b z)(hd:Ec d=true)(hn:ds.length=n):Quiet P hp ⟨dd,.load t x,ty,ps,af,gd⟩ arg (.d (BF ds)):=PL (o:=⟨dd,.load t x,ty,ps,af,gd⟩) rfl hx ht hd hn
theorem ZM{x:Operand}{t:TypeId}{d:TypeDesc}{n b T:Nat}{z:Value}{ds r:List D}(hx:arg x = .d (Is T ds))(ht:Tab P t d n b z)(hd:Ec d=true)(hr:Lx n ds=some r):Quiet P hp ⟨dd,.load t x,ty,ps,af,gd⟩ arg (.d (BF r)):=WX (o:=⟨dd,.load t x,ty,ps,af,gd⟩) rfl hx ht hd hr
theorem A1g{x:Operand}{t:TypeId}{d:TypeDesc}{n b T:Nat}{z:Value}{ds:List D}{r:D}(hx:arg x = .d (Is T ds))(ht:Tab P t d n b z)(hd:Ec d=false)(hr:Zn 0 ds=some r):Quiet P hp ⟨dd,.load t x,ty,ps,af,gd⟩ arg (.d r):=Tr (o:=⟨dd,.load t x,ty,ps,af,gd⟩) rfl hx ht hd hr
theorem TA{x:Operand}{i:Nat}{ds:List D}{r:D}(hx:arg x = .d (CK ds))(hr:Zn i ds=some r):Quiet P hp ⟨dd,.extract x i,ty,ps,af,gd⟩ arg (.d r):=Quiet.ext (o:=⟨dd,.extract x i,ty,ps,af,gd⟩) rfl hx hr
theorem ZN{t:TypeId}{fs:Array Field}{n b:Nat}{z:Value}{parts:List (Nat×Operand)}{pl:List (Nat×Nat)}{r:List (Nat×List D)}{ds:List D}(ht:Tab P t (.struct fs) n b z)(hpl:FieldsT P fs.toList pl)(h1:Gg z.cells.toList=true)(hr:PartsA hp arg parts r)(hf:FG (λi=>pl[i]?) (Pk z.cells.toList) r=some ds):Quiet P hp ⟨dd,.build t parts.toArray,ty,ps,af,gd⟩ arg (.d (BF ds)):=Quiet.build (o:=⟨dd,.build t parts.toArray,ty,ps,af,gd⟩) rfl ht hpl h1 hr hf
theorem RN{t e:TypeId}{len n b n' b':Nat}{z z':Value}{d:TypeDesc}{parts:List (Nat×Operand)}{r:List (Nat×List D)}{ds:List D}(ht:Tab P t (.array len e) n b z)(he:Tab P e d n' b' z')(h1:Gg z.cells.toList=true)(hr:PartsA hp arg parts r)(hf:FG (λi=>some (i*n',n')) (Pk z.cells.toList) r=some ds):Quiet P hp ⟨dd,.build t parts.toArray,ty,ps,af,gd⟩ arg (.d (BF ds)):=MV (o:=⟨dd,.build t parts.toArray,ty,ps,af,gd⟩) rfl ht he h1 hr hf
theorem Iv{t e:TypeId}{len n b n' b':Nat}{z z':Value}{d:TypeDesc}{parts:List (Nat×Operand)}{r:List (Nat×List D)}{ds:List D}(ht:Tab P t (.slice e) n b z)(he:Tab P e d n' b' z')(hlen:0<len)(hn:0<n')(hz:z'.cells.size=n')(h24:len*n'<=16777216)(h1:Gg z'.cells.toList=true)(hr:PartsA hp arg parts r)(hf:FG (λi=>some (i*n',n')) (List.replicate (len*n') Dp) r=some ds):Quiet P hp ⟨dd,.buildSlice t len parts.toArray,ty,ps,af,gd⟩ arg (.d (slD e n' (FJ n' len ds))):=Quiet.buildSlice (o:=⟨dd,.buildSlice t len parts.toArray,ty,ps,af,gd⟩) rfl ht he hlen hn hz h24 h1 hr hf
theorem A2G{x y:Operand}{tys:Array TypeId}{k:IntKind}{a b:Int}(hx:arg x = .d (ex (.int k a)))(hy:arg y = .d (ex (.int k b))):Quiet P hp ⟨dd,.call { callee:=.builtin .max,args:=#[x,y],argTypes:=tys },ty,ps,af,gd⟩ arg (.d (ex (.int k (Max.max a b)))):=Quiet.max (o:=⟨dd,.call { callee:=.builtin .max,args:=#[x,y],argTypes:=tys },ty,ps,af,gd⟩) rfl hx hy
theorem Lo{f:Operand}{args:List Operand}{tys:Array TypeId}{fid:FuncId}{ds:List D}{r:D}(hf:arg f = .d (ex (.func (.func fid) #[] #[])))(hc:Abs P fid ds r)(ha:ArgsLe hp arg args ds):Quiet P hp ⟨dd,.call { callee:=.value f,args:=args.toArray,argTypes:=tys },ty,ps,af,gd⟩ arg (.d r):=Quiet.call (o:=⟨dd,.call { callee:=.value f,args:=args.toArray,argTypes:=tys },ty,ps,af,gd⟩) rfl hf hc ha
theorem A44{op:BinOp}{T U:TypeId}{x y:Operand}{a b v:Value}(hx:arg x = .d (ex a))(hy:arg y = .d (ex b))(hr:∀w,(do eqGuard op T x y a b;binOp op T a b:Sem Value).run P w = .ok v w):Quiet P hp ⟨dd,.binOp op T x y U,ty,ps,af,gd⟩ arg (.d (ex v)):=Em (o:=⟨dd,.binOp op T x y U,ty,ps,af,gd⟩) rfl hx hy hr
theorem GY{x:Operand}{r:AV}(hx:arg x=r):Quiet P hp ⟨dd,.move x,ty,ps,af,gd⟩ arg r:=Quiet.move (.inl rfl) hx
theorem Fo{x:Operand}{r:AV}(hx:arg x=r):Quiet P hp ⟨dd,.assign x,ty,ps,af,gd⟩ arg r:=Quiet.move (.inr rfl) hx
end
section
variable {P:Program} {s0:An} {n:Nat} {ops:Array Oper} {Q:Exit->AS->Prop} {rest:List Oper} {fr:List (Nat×AV)} {hp:List Ow} {ty:TypeId} {ps:String} {af:Array Edge}
theorem A2W{T:TypeId}{d:TypeDesc}{m b k t:Nat}{z:Value}{c:List D}{hp':List Ow}(ht:Tab P T d m b z)(hT:Nat.beq T 108=false)(h1:Gg z.cells.toList=true)(hd:Nat.blt t n=true)(hc:exO z.cells.toList=some c)(hk:Gz hp=some k)(hs:Eo hp (.var T (c.map .d))=some hp')(h:AWl P s0 n ops Q rest ⟨(t,.ptr k 0)::fr,hp'⟩):AWl P s0 n ops Q (⟨some t,.alloc T,ty,ps,af,none⟩::rest) ⟨fr,hp⟩:=A32 (o:=⟨some t,.alloc T,ty,ps,af,none⟩) rfl rfl rfl ht hT h1 hd hc hk hs h
theorem A2V{T:TypeId}{x:Operand}{ds:List D}{k t:Nat}{hp':List Ow}(hx:AS.arg ⟨fr,hp⟩ x = .d (BF ds))(hT:Nat.beq T 108=false)(hd:Nat.blt t n=true)(hk:Gz hp=some k)(hs:Eo hp (.var T (ds.map .d))=some hp')(h:AWl P s0 n ops Q rest ⟨(t,.ptr k 0)::fr,hp'⟩):AWl P s0 n ops Q (⟨some t,.box T x,ty,ps,af,none⟩::rest) ⟨fr,hp⟩:=A30 (o:=⟨some t,.box T x,ty,ps,af,none⟩) rfl rfl rfl hx hT hd hk hs h
theorem A1s{T T0:TypeId}{d:TypeDesc}{b id m:Nat}{z:Value}{x y:Operand}{cells:List AV}{ds:List D}{hp':List Ow}(hx:AS.arg ⟨fr,hp⟩ x = .ptr id 0)(hy:AS.arg ⟨fr,hp⟩ y = .d (BF ds))(hh:hp[id]? = some (.var T0 cells))(ht:Tab P T d m b z)(hm:ds.length=m)(hoff:cells.length=m)(hs:DI hp id (.var T0 (ds.map .d))=some hp')(h:AWl P s0 n ops Q rest ⟨fr,hp'⟩):AWl P s0 n ops Q (⟨none,.store T x y,ty,ps,af,none⟩::rest) ⟨fr,hp⟩:=A1x (o:=⟨none,.store T x y,ty,ps,af,none⟩) rfl rfl rfl hx hy hh ht hm hoff hs h
theorem Sc{T T0:TypeId}{d:TypeDesc}{b id off:Nat}{z:Value}{x y:Operand}{cs cs':List D}{u:D}{hp':List Ow}(hx:AS.arg ⟨fr,hp⟩ x = .ptr id off)(hy:AS.arg ⟨fr,hp⟩ y = .d u)(hh:hp[id]? = some (.var T0 (cs.map .d)))(ht:Tab P T d 1 b z)(h1:One hp (.d u))(hc:Sr cs off [u]=some cs')(hs:DI hp id (.var T0 (cs'.map .d))=some hp')(h:AWl P s0 n ops Q rest ⟨fr,hp'⟩):AWl P s0 n ops Q (⟨none,.store T x y,ty,ps,af,none⟩::rest) ⟨fr,hp⟩:=A02 (o:=⟨none,.store T x y,ty,ps,af,none⟩) rfl rfl rfl hx hy hh ht h1 hc hs h
theorem Qc{x y:Operand}{t T T2 sz bytes id m b e:Nat}{z z':Value}{d:TypeDesc}{rows r2:List (List D)}{fr':List (Nat×AV)}{hp':List Ow}(hx:AS.arg ⟨fr,hp⟩ x = .own id)(hy:Ew hp (AS.arg ⟨fr,hp⟩ y)=some (slD T2 sz r2))(hh:hp[id]? = some (.row T sz rows))(ht:Tab P t (.slice T) m b z')(hT:Tab P T d sz bytes z)(hzs:z.cells.size=sz)(hd:Nat.blt e n=true)(hbytes:(rows.length+r2.length)*bytes<=140737488355328)(h63:rows.length+r2.length<=4611686018427387904)(hf:DW id (slD T sz rows) fr=some fr')(hpl:PlainHp id hp)(hs:DI hp id (.row T sz (rows++r2))=some hp')(h:AWl P s0 n ops Q rest ⟨(e,.own id)::fr',hp'⟩):AWl P s0 n ops Q (⟨some e,.call { callee:=.builtin .append,args:=#[x,y],argTypes:=#[t,t] },ty,ps,af,none⟩::rest) ⟨fr,hp⟩:=AWl.app (o:=⟨some e,.call { callee:=.builtin .append,args:=#[x,y],argTypes:=#[t,t] },ty,ps,af,none⟩) rfl rfl rfl hx hy hh ht hT hzs hd hbytes h63 hf hpl hs h
theorem EA{t T m b sz bytes k e:Nat}{z z':Value}{d:TypeDesc}{hp':List Ow}(ht:Tab P t (.slice T) m b z')(hT:Tab P T d sz bytes z)(hT32:Nat.beq T 108=false)(h0:Nat.blt 0 sz=true)(hd:Nat.blt e n=true)(hk:Gz hp=some k)(hs:Eo hp (.row T sz [])=some hp')(h:AWl P s0 n ops Q rest ⟨(e,.own k)::fr,hp'⟩):AWl P s0 n ops Q (⟨some e,.buildSlice t 0 #[],ty,ps,af,none⟩::rest) ⟨fr,hp⟩:=A31 (o:=⟨some e,.buildSlice t 0 #[],ty,ps,af,none⟩) rfl rfl rfl ht hT hT32 h0 hd hk hs h
theorem UW{t T m b sz bytes k e:Nat}{z z':Value}{d:TypeDesc}{x y:Operand}{c:Int}{hp':List Ow}(hx:AS.arg ⟨fr,hp⟩ x = .d (ex (.int .i64 0)))(hy:AS.arg ⟨fr,hp⟩ y = .d (ex (.int .i64 c)))(ht:Tab P t (.slice T) m b z')(hT:Tab P T d sz bytes z)(hc0:0<=c)(hc:c<=1000000000)(hbytes:Nat.ble bytes 65536=true)(hT32:Nat.beq T 108=false)(h0:Nat.blt 0 sz=true)(hd:Nat.blt e n=true)(hk:Gz hp=some k)(hs:Eo hp (.row T sz [])=some hp')(h:AWl P s0 n ops Q rest ⟨(e,.own k)::fr,hp'⟩):AWl P s0 n ops Q (⟨some e,.makeSlice t x y,ty,ps,af,none⟩::rest) ⟨fr,hp⟩:=A1z (o:=⟨some e,.makeSlice t x y,ty,ps,af,none⟩) rfl rfl rfl hx hy ht hT hc0 hc hbytes hT32 h0 hd hk hs h
theorem Cr{d:Nat}{op:Op}(hs:Cd op=true)(hd:Nat.blt d n=true)(h:∃r,Quiet P hp ⟨some d,op,ty,ps,af,none⟩ (AS.arg ⟨fr,hp⟩) r/\AWl P s0 n ops Q rest ⟨(d,r)::fr,hp⟩):AWl P s0 n ops Q (⟨some d,op,ty,ps,af,none⟩::rest) ⟨fr,hp⟩:=A2Z rfl rfl hs hd h
theorem HX{d:Nat}{op:Op}{j:Nat}{b:Bool}{e:Nat}(hy:(ops[j]?).bind (·.dst)=some e)(hl:CA fr e=some (.d (ex (.bool b))))(hen:Nat.blt e n=true)(hs:Cd op=true)(hd:Nat.blt d n=true)(h:∃r,Quiet P hp ⟨some d,op,ty,ps,af,some (j,b)⟩ (AS.arg ⟨fr,hp⟩) r/\AWl P s0 n ops Q rest ⟨(d,r)::fr,hp⟩):AWl P s0 n ops Q (⟨some d,op,ty,ps,af,some (j,b)⟩::rest) ⟨fr,hp⟩:=A1y rfl hy hl hen rfl hs hd h
theorem A2U{d:Nat}{op:Op}{j:Nat}{b:Bool}{u:Value}{e:Nat}(hy:(ops[j]?).bind (·.dst)=some e)(hl:CA fr e=some (.d (ex u)))(hne:isB u b=false)(hen:Nat.blt e n=true)(hd:Nat.blt d n=true)(h:AWl P s0 n ops Q rest ⟨(d,.d (ex undef))::fr,hp⟩):AWl P s0 n ops Q (⟨some d,op,ty,ps,af,some (j,b)⟩::rest) ⟨fr,hp⟩:=A2X rfl hy hl hne hen rfl hd h
end
def plO:List Field->Option (List (Nat×Nat))
 | []=>some []
 | f::l=>match Ns TS f.type with
  | some p=>match plO l with
   | some r=>some ((f.offset,p.n)::r)
   | none=>none
  | none=>none
theorem Ym:∀{l:List Field} {r:List (Nat×Nat)},plO l=some r->FieldsT Tryz.prog l r
 | [],r,h=>by cases h;exact FieldsT.nil
 | f::l,r,h=>by
  unfold plO at h
  cases ht:Ns TS f.type with
  | none=>rw [ht] at h;cases h
  | some p=>
   rw [ht] at h
   simp only at h
   cases hr:plO l with
   | none=>rw [hr] at h;cases h
   | some r'=>
    rw [hr] at h
    cases h
    obtain ⟨h1,h2⟩:=Lv TW ht
    rw [h1] at h2
    exact FieldsT.cons h2 (Ym hr)
def PartOk(hp:List Ow)(av:AV)(es:List D):Prop:=av = .d (BF es)\/∃y,Ew hp av=some y/\One hp av/\es=[y]
theorem AO{hp:List Ow}{av:AV}{es:List D}(h:av = .d (BF es)):PartOk hp av es:=.inl h
theorem PartOk.one{hp:List Ow}{av:AV}{y:D}(h:Ew hp av=some y)(h1:One hp av):PartOk hp av [y]:=.inr ⟨y,h,h1,rfl⟩
def Ud:List (Nat×List D)->Nat×List D->Option (List (Nat×List D))
 | [],x=>some [x]
 | o::l,x=>match Ud l x with
  | some r=>some (o::r)
  | none=>none
theorem Qj:∀{l:List (Nat×List D)} {x:Nat×List D} {r:List (Nat×List D)},Ud l x=some r->r=l++[x]
 | [],x,r,h=>by cases h;rfl
 | o::l,x,r,h=>by
  unfold Ud at h
  split at h
  .rename_i r' h'
   cases h
   rw [Qj h']
   rfl
  .cases h
def PC(hp:List Ow)(arg:Operand->AV)(K:List (Nat×List D)->Prop):List (Nat×List D)->List (Nat×Operand)->Prop
 | acc,[]=>K acc
 | acc,(i,x)::l=>∃es,PartOk hp (arg x) es/\∃acc',Ud acc (i,es)=some acc'/\PC hp arg K acc' l
theorem JG{hp:List Ow}{arg:Operand->AV}{K:List (Nat×List D)->Prop}:∀{l:List (Nat×Operand)} {acc:List (Nat×List D)},PC hp arg K acc l->∃r,PartsA hp arg l r/\K (acc++r)
 | [],acc,h=>⟨[],PartsA.nil,by rw [List.append_nil];exact h⟩
 | (i,x)::l,acc,⟨es,h1,acc',h2,h3⟩=>by
  have e:=Qj h2
  subst e
  obtain ⟨r,h4,h5⟩:=JG h3
  rw [List.append_assoc,List.singleton_append] at h5
  exact ⟨(i,es)::r,⟨rfl,h1,h4⟩,h5⟩
def NY(place:Nat->Option (Nat×Nat)):List D->List (Nat×List D)->Option (List D)
 | ds,[]=>some ds
 | ds,(i,es)::r=>match place i with
  | some (off,size)=>bif Nat.beq es.length size then match Sr ds off es with
   | some ds'=>NY place ds' r
   | none=>none else none
  | none=>none
theorem Jy{place:Nat->Option (Nat×Nat)}:∀{r:List (Nat×List D)} {ds x:List D},NY place ds r=some x->FG place ds r=some x
 | [],ds,x,h=>h
 | (i,es)::r,ds,x,h=>by
  unfold NY at h
  unfold FG
  cases hp:place i with
  | none=>rw [hp] at h;cases h
  | some q=>
   obtain ⟨off,size⟩:=q
   rw [hp] at h
   simp only at h ⊢
   cases hb:Nat.beq es.length size with
   | false=>rw [hb] at h;cases h
   | true=>
    rw [hb] at h
    simp only [cond_true] at h
    cases hs:Sr ds off es with
    | none=>rw [hs] at h;cases h
    | some ds'=>
     rw [hs] at h
     obtain ⟨e1,e2⟩:=OI hs
     have e3:=Nat.eq_of_beq_eq_true hb
     have e4:Nat.ble (off+size) ds.length=true:=Nat.ble_eq_true_of_le (by omega)
     rw [e4,<-e1]
     exact Jy h
section
variable {P:Program} {hp:List Ow} {arg:Operand->AV} {dd:Option Tmp} {ty:TypeId} {ps:String} {af:Array Edge} {gd:Option (Nat×Bool)}
theorem BR{t:TypeId}{fs:Array Field}{n b:Nat}{z:Value}{parts:List (Nat×Operand)}{pl:List (Nat×Nat)}{zs:List D}{R:AV->Prop}(ht:Tab Tryz.prog t (.struct fs) n b z)(hpl:plO fs.toList=some pl)(h1:Gg z.cells.toList=true)(hz:exO z.cells.toList=some zs)(h:PC hp arg (λr=>∃ds,NY (λi=>pl[i]?) zs r=some ds/\R (.d (BF ds))) [] parts):∃r,Quiet Tryz.prog hp ⟨dd,.build t parts.toArray,ty,ps,af,gd⟩ arg r/\R r:=by
 obtain ⟨r,h2,ds,h3,h4⟩:=JG h
 rw [Mq hz] at h3
 exact ⟨_,ZN ht (Ym hpl) h1 h2 (Jy h3),h4⟩
theorem FM{t e:TypeId}{len n b n' b':Nat}{z z':Value}{d:TypeDesc}{parts:List (Nat×Operand)}{zs:List D}{R:AV->Prop}(ht:Tab P t (.array len e) n b z)(he:Tab P e d n' b' z')(h1:Gg z.cells.toList=true)(hz:exO z.cells.toList=some zs)(h:PC hp arg (λr=>∃ds,NY (λi=>some (i*n',n')) zs r=some ds/\R (.d (BF ds))) [] parts):∃r,Quiet P hp ⟨dd,.build t parts.toArray,ty,ps,af,gd⟩ arg r/\R r:=by
 obtain ⟨r,h2,ds,h3,h4⟩:=JG h
 rw [Mq hz] at h3
 exact ⟨_,RN ht he h1 h2 (Jy h3),h4⟩
theorem Cx{t e:TypeId}{len n b n' b':Nat}{z z':Value}{d:TypeDesc}{parts:List (Nat×Operand)}{R:AV->Prop}(ht:Tab P t (.slice e) n b z)(he:Tab P e d n' b' z')(hlen:Nat.blt 0 len=true)(hn:Nat.blt 0 n'=true)(hz:z'.cells.size=n')(h24:Nat.ble (len*n') 16777216=true)(h1:Gg z'.cells.toList=true)(h:PC hp arg (λr=>∃ds,NY (λi=>some (i*n',n')) (List.replicate (len*n') Dp) r=some ds/\R (.d (slD e n' (FJ n' len ds)))) [] parts):∃r,Quiet P hp ⟨dd,.buildSlice t len parts.toArray,ty,ps,af,gd⟩ arg r/\R r:=by
 obtain ⟨r,h2,ds,h3,h4⟩:=JG h
 exact ⟨_,Iv ht he (by simpa [Nat.blt_eq] using hlen) (by simpa [Nat.blt_eq] using hn) hz (Nat.le_of_ble_eq_true h24) h1 h2 (Jy h3),h4⟩
theorem BJ{t e:TypeId}{n b n' b':Nat}{z z':Value}{d:TypeDesc}{x:Operand}{es:List D}(hx:arg x = .d (BF es))(ht:Tab P t (.slice e) n b z)(he:Tab P e d n' b' z')(hl:es.length=n')(hn:Nat.blt 0 n'=true)(hz:z'.cells.size=n')(h24:Nat.ble n' 16777216=true)(h1:Gg z'.cells.toList=true):Quiet P hp ⟨dd,.buildSlice t 1 #[(0,x)],ty,ps,af,gd⟩ arg (.d (slD e n' [es])):=by
 have hb:(Nat.beq es.length n'&&Nat.ble (0*n'+n') (List.replicate (1*n') Dp).length)=true:=by
  simp [hl]
 have hf:FG (λi=>some (i*n',n')) (List.replicate (1*n') Dp) [(0,es)]=some es:=by
  simp only [FG]
  rw [hb]
  simp only [cond_true,Ny,Option.some.injEq]
  rw [Nat.zero_mul,List.take_zero,List.nil_append,List.drop_eq_nil_of_le (by simp [hl]),List.append_nil]
 have h:=Iv (P:=P) (hp:=hp) (dd:=dd) (ty:=ty) (ps:=ps) (af:=af) (gd:=gd) (len:=1) (parts:=[(0,x)]) (r:=[(0,es)]) ht he (by omega) (by simpa [Nat.blt_eq] using hn) hz (by have:=Nat.le_of_ble_eq_true h24;omega) h1 (Xf hx PartsA.nil) hf
 have e1:FJ n' 1 es=[es]:=by
  simp only [FJ]
  rw [<-hl,List.take_length]
 rwa [e1] at h
theorem Hq{σ:AS}{acc:List HR}{e:List (Nat×Nat)}{o:Oper}{R:HR->Prop}(hg:o.guard=none)(h:∃r,Quiet P σ.hp o (MK σ acc e) r/\R (.av r)):∃r,HStep P σ acc e o r/\R r:=by
 obtain ⟨r,h1,h2⟩:=h
 exact ⟨_,US hg h1,h2⟩
end
section
variable {P:Program} {s0:An} {m:Nat} {ops:Array Oper} {Q:Exit->AS->Prop} {rest:List Oper} {σ:AS} {hp:List Ow} {arg:Operand->AV} {dd:Option Tmp} {ty:TypeId} {ps:String} {af:Array Edge} {gd:Option (Nat×Bool)} {R:AV->Prop} {H:HR->Prop} {acc:List HR} {e:List (Nat×Nat)}
theorem Lq{x:Operand}(h:∃r,Quiet P hp ⟨dd,.move x,ty,ps,af,gd⟩ arg r/\R r):∃r,Quiet P hp ⟨dd,.move x,ty,ps,af,gd⟩ arg r/\R r:=h
theorem A1o{x:Operand}(h:∃r,HStep P σ acc e ⟨dd,.move x,ty,ps,af,gd⟩ r/\H r):∃r,HStep P σ acc e ⟨dd,.move x,ty,ps,af,gd⟩ r/\H r:=h
theorem Ik{x:Operand}(h:∃r,Quiet P hp ⟨dd,.assign x,ty,ps,af,gd⟩ arg r/\R r):∃r,Quiet P hp ⟨dd,.assign x,ty,ps,af,gd⟩ arg r/\R r:=h
theorem A1p{t:TypeId}{x:Operand}(h:∃r,HStep P σ acc e ⟨dd,.load t x,ty,ps,af,gd⟩ r/\H r):∃r,HStep P σ acc e ⟨dd,.load t x,ty,ps,af,gd⟩ r/\H r:=h
theorem PY{t f:Nat}{x:Operand}(h:∃r,HStep P σ acc e ⟨dd,.fieldAddr t x f,ty,ps,af,gd⟩ r/\H r):∃r,HStep P σ acc e ⟨dd,.fieldAddr t x f,ty,ps,af,gd⟩ r/\H r:=h
theorem PX{t:TypeId}{x y:Operand}(h:∃r,HStep P σ acc e ⟨dd,.indexAddr t x y,ty,ps,af,gd⟩ r/\H r):∃r,HStep P σ acc e ⟨dd,.indexAddr t x y,ty,ps,af,gd⟩ r/\H r:=h
theorem ZU{l:Array Operand}{ts:Array TypeId}(h:∃r,Quiet P hp ⟨dd,.call { callee:=.builtin .len,args:=l,argTypes:=ts },ty,ps,af,gd⟩ arg r/\R r):∃r,Quiet P hp ⟨dd,.call { callee:=.builtin .len,args:=l,argTypes:=ts },ty,ps,af,gd⟩ arg r/\R r:=h
theorem RT{f:Operand}{l:Array Operand}{ts:Array TypeId}(h:∃r,Quiet P hp ⟨dd,.call { callee:=.value f,args:=l,argTypes:=ts },ty,ps,af,gd⟩ arg r/\R r):∃r,Quiet P hp ⟨dd,.call { callee:=.value f,args:=l,argTypes:=ts },ty,ps,af,gd⟩ arg r/\R r:=h
theorem ZV{f:Operand}{l:Array Operand}{ts:Array TypeId}(h:∃r,HStep P σ acc e ⟨dd,.call { callee:=.value f,args:=l,argTypes:=ts },ty,ps,af,gd⟩ r/\H r):∃r,HStep P σ acc e ⟨dd,.call { callee:=.value f,args:=l,argTypes:=ts },ty,ps,af,gd⟩ r/\H r:=h
theorem A2N{t u:TypeId}{x y:Operand}(h:∃r,Quiet P hp ⟨dd,.binOp .add t x y u,ty,ps,af,gd⟩ arg r/\R r):∃r,Quiet P hp ⟨dd,.binOp .add t x y u,ty,ps,af,gd⟩ arg r/\R r:=h
theorem A45{t u:TypeId}{x y:Operand}(h:∃r,Quiet P hp ⟨dd,.binOp .quo t x y u,ty,ps,af,gd⟩ arg r/\R r):∃r,Quiet P hp ⟨dd,.binOp .quo t x y u,ty,ps,af,gd⟩ arg r/\R r:=h
theorem A46{t u:TypeId}{x y:Operand}(h:∃r,HStep P σ acc e ⟨dd,.binOp .quo t x y u,ty,ps,af,gd⟩ r/\H r):∃r,HStep P σ acc e ⟨dd,.binOp .quo t x y u,ty,ps,af,gd⟩ r/\H r:=h
theorem A48{t u:TypeId}{x y:Operand}(h:AWl P s0 m ops Q (⟨dd,.binOp .quo t x y u,ty,ps,af,gd⟩::rest) σ):AWl P s0 m ops Q (⟨dd,.binOp .quo t x y u,ty,ps,af,gd⟩::rest) σ:=h
theorem TF{op:BinOp}{t u:TypeId}{x y:Operand}(h:∃r,Quiet P hp ⟨dd,.binOp op t x y u,ty,ps,af,gd⟩ arg r/\R r):∃r,Quiet P hp ⟨dd,.binOp op t x y u,ty,ps,af,gd⟩ arg r/\R r:=h
theorem A47{op:BinOp}{t u:TypeId}{x y:Operand}(h:∃r,HStep P σ acc e ⟨dd,.binOp op t x y u,ty,ps,af,gd⟩ r/\H r):∃r,HStep P σ acc e ⟨dd,.binOp op t x y u,ty,ps,af,gd⟩ r/\H r:=h
theorem A49{op:BinOp}{t u:TypeId}{x y:Operand}(h:AWl P s0 m ops Q (⟨dd,.binOp op t x y u,ty,ps,af,gd⟩::rest) σ):AWl P s0 m ops Q (⟨dd,.binOp op t x y u,ty,ps,af,gd⟩::rest) σ:=h
theorem A2M{x:Operand}{i:Nat}(h:∃r,Quiet P hp ⟨dd,.extract x i,ty,ps,af,gd⟩ arg r/\R r):∃r,Quiet P hp ⟨dd,.extract x i,ty,ps,af,gd⟩ arg r/\R r:=h
theorem A2P{x:Operand}{i:Nat}(h:∃r,HStep P σ acc e ⟨dd,.extract x i,ty,ps,af,gd⟩ r/\H r):∃r,HStep P σ acc e ⟨dd,.extract x i,ty,ps,af,gd⟩ r/\H r:=h
theorem A3I{t:TypeId}(h:∃r,Quiet P hp ⟨dd,.alloc t,ty,ps,af,gd⟩ arg r/\R r):∃r,Quiet P hp ⟨dd,.alloc t,ty,ps,af,gd⟩ arg r/\R r:=h
theorem A3J{t:TypeId}(h:∃r,HStep P σ acc e ⟨dd,.alloc t,ty,ps,af,gd⟩ r/\H r):∃r,HStep P σ acc e ⟨dd,.alloc t,ty,ps,af,gd⟩ r/\H r:=h
theorem A3L{t:TypeId}(h:AWl P s0 m ops Q (⟨dd,.alloc t,ty,ps,af,gd⟩::rest) σ):AWl P s0 m ops Q (⟨dd,.alloc t,ty,ps,af,gd⟩::rest) σ:=h
theorem A3K{t:TypeId}(h:AWl P s0 m ops Q (⟨dd,.buildSlice t 0 #[],ty,ps,af,gd⟩::rest) σ):AWl P s0 m ops Q (⟨dd,.buildSlice t 0 #[],ty,ps,af,gd⟩::rest) σ:=h
theorem PZ{c:Operand}{x y:Code}(h:AWp P s0 m (.cond c x y) Q σ):AWp P s0 m (.cond c x y) Q σ:=h
end
structure CellAt(ds:List D)(off:Nat)(u:D):Prop where
 lt:off<ds.length
 eq:Cj ds off=u
structure PartAt(ds:List D)(off n:Nat)(es:List D):Prop where
 le:off+n<=ds.length
 eq:(ds.drop off).take n=es
structure SetAt(ds:List D)(off:Nat)(es ds':List D):Prop where
 le:off+es.length<=ds.length
 eq:Ny ds off es=ds'
theorem CellAt.mon{a:Nat->Int}{k:Nat}(h:k<8):CellAt (BW a) k (ex (.int .i64 (a k))):=⟨h,Pd h⟩
theorem RX{a:Nat->Int}{k:Nat}(h:k<8):CellAt (BW a) (0+k*1) (ex (.int .i64 (a k))):=by rw [Nat.zero_add,Nat.mul_one];exact .mon h
theorem Xj{c:Rat}{a:Nat->Int}{k:Nat}(h:k<8):CellAt (Bz c++BW a) (0+4+k*1) (ex (.int .i64 (a k))):=by
 have e:Cj (Bz c++BW a) (4+k)=Cj (BW a) k:=by rw [show 4+k=k+4 by omega];rfl
 rw [Nat.zero_add,Nat.mul_one]
 exact ⟨by rw [List.length_append,Dh,KA];omega,e.trans (Pd h)⟩
theorem NQ{a:Nat->Int}{k:Nat}{z:Int}(h:k<8):Ny (BW a) k [ex (.int .i64 z)]=BW (Su a k z):=by
 match k,h with
 | 0,_=>rfl
 | 1,_=>rfl
 | 2,_=>rfl
 | 3,_=>rfl
 | 4,_=>rfl
 | 5,_=>rfl
 | 6,_=>rfl
 | 7,_=>rfl
theorem SetAt.mon{a:Nat->Int}{k:Nat}{z:Int}(h:k<8):SetAt (BW a) (0+k*1) [ex (.int .i64 z)] (BW (Su a k z)):=by
 rw [Nat.zero_add,Nat.mul_one]
 exact ⟨h,NQ h⟩
theorem A3F{c:Rat}{a:Nat->Int}{k:Nat}{z:Int}(h:k<8):SetAt (Bz c++BW a) (0+4+k*1) [ex (.int .i64 z)] (Bz c++BW (Su a k z)):=by
 rw [Nat.zero_add,Nat.mul_one]
 refine ⟨by rw [List.length_append,Dh,KA];simp;omega,?_⟩
 rw [<-NQ h]
 unfold Ny
 have e1:(Bz c++BW a).take (4+k)=Bz c++(BW a).take k:=by rw [show 4+k=(Bz c).length+k from rfl,List.take_length_add_append]
 have e2:(Bz c++BW a).drop (4+k+[ex (.int .i64 z)].length)=(BW a).drop (k+[ex (.int .i64 z)].length):=by rw [Nat.add_assoc,show 4=(Bz c).length from rfl,List.drop_length_add_append]
 rw [e1,e2,List.append_assoc]
def A0n:List (List D)->Nat->Option (List D)
 | [],_=>none
 | r::_,0=>some r
 | _::l,i+1=>A0n l i
theorem Ui:∀{l:List (List D)} {i:Nat} {r:List D},A0n l i=some r->r=l.getD i []/\i<l.length
 | [],_,_,h=>by cases h
 | x::l,0,r,h=>by cases h;exact ⟨rfl,by simp⟩
 | x::l,i+1,r,h=>by
  obtain ⟨h1,h2⟩:=Ui (l:=l) (i:=i) h
  exact ⟨by simpa using h1,by simp;omega⟩
section
variable {P:Program} {hp:List Ow} {arg:Operand->AV} {dd:Option Tmp} {ty:TypeId} {ps:String} {af:Array Edge} {gd:Option (Nat×Bool)}
theorem A2J{x y:Operand}{t:TypeId}{e n b n' b' len id off k:Nat}{d:TypeDesc}{z z':Value}{κ:IntKind}(hx:arg x = .ptr id off)(hy:arg y = .d (ex (.int κ ((k:Nat):Int))))(ht:Tab P t (.array len e) n b z)(he:Tab P e d n' b' z')(hk:k<len):Quiet P hp ⟨dd,.indexAddr t x y,ty,ps,af,gd⟩ arg (.ptr id (off+k*n')):=
 PN (o:=⟨dd,.indexAddr t x y,ty,ps,af,gd⟩) rfl hx hy ht he (by omega) (by omega)
theorem Xa{x y:Operand}{t:TypeId}{e n b n' b' T sz:Nat}{d:TypeDesc}{z z':Value}{rows:List (List D)}{r:List D}{κ:IntKind}{i:Int}(hx:Ew hp (arg x)=some (slD T sz rows))(hy:arg y = .d (ex (.int κ i)))(ht:Tab P t (.slice e) n b z)(he:Tab P e d n' b' z')(hsz:n'=sz)(hr:A0n rows i.toNat=some r)(h0:0<=i):Quiet P hp ⟨dd,.indexAddr t x y,ty,ps,af,gd⟩ arg (.d (Is T r)):=by
 obtain ⟨h1,h2⟩:=Ui hr
 rw [h1]
 exact Quiet.index (o:=⟨dd,.indexAddr t x y,ty,ps,af,gd⟩) rfl hx hy ht he hsz h0 (by omega)
theorem A1c{T U:TypeId}{x y:Operand}{a:Nat}(hx:arg x = .d (ex (.int .i64 ((a:Nat):Int))))(hy:arg y = .d (ex (.int .i64 1)))(h0:0<a)(h1:(a:Int)<9223372036854775807):Quiet P hp ⟨dd,.binOp .sub T x y U,ty,ps,af,gd⟩ arg (.d (ex (.int .i64 ((a-1:Nat):Int)))):=by
 have:=Quiet.sub (P:=P) (hp:=hp) (o:=⟨dd,.binOp .sub T x y U,ty,ps,af,gd⟩) rfl hx hy (by omega) (by omega)
 rwa [show (a:Int)-1=((a-1:Nat):Int) by omega] at this
theorem A1f{x:Operand}{t:TypeId}{d:TypeDesc}{n b T id off:Nat}{z:Value}{ds:List D}{u:D}(hx:arg x = .ptr id off)(hh:hp[id]? = some (.var T (ds.map .d)))(ht:Tab P t d n b z)(hd:Ec d=false)(hc:CellAt ds off u):Quiet P hp ⟨dd,.load t x,ty,ps,af,gd⟩ arg (.d u):=by
 have:=JD (P:=P) (o:=⟨dd,.load t x,ty,ps,af,gd⟩) rfl hx hh ht hd hc.lt
 rwa [hc.eq] at this
theorem Wi (a b : Nat → Int) {x y : Operand} (w : World) : (do eqGuard .eql 60 x y (.agg (c8 a)) (.agg (c8 b)); binOp .eql 60 (.agg (c8 a)) (.agg (c8 b)) : Sem Value).run Tryz.prog w = .ok (.bool (Nj a b)) w := by
 have heq:(Op.equalIn Op.maxDepth 60 (.agg (c8 a)) (.agg (c8 b))).run Tryz.prog w = .ok (Nj a b) w:=EJ a b w
 simp [eqGuard,binOp,Op.equal,heq]
theorem Tz {op : BinOp} {T U : TypeId} {x y : Operand} {dx dy : D} {a b v : Value} {o : Oper} (hop : o.op = .binOp op T x y U) (hx : arg x = .d dx) (hy : arg y = .d dy) (ha : ∀ s u, dx.rel s u → u = a) (hb : ∀ s u, dy.rel s u → u = b) (hr : ∀ w, (do eqGuard op T x y a b; binOp op T a b : Sem Value).run P w = .ok v w) : Quiet P hp o arg (.d (ex v)) := by
 refine ⟨λbase s ρ ev hok hbs hhp h=>?_⟩
 have h1:=h x (by rw [hop];simp [Op.operands])
 have h2:=h y (by rw [hop];simp [Op.operands])
 rw [hx] at h1;rw [hy] at h2
 have e1:=ha s _ h1
 have e2:=hb s _ h2
 have:=hr s.w
 refine BO (v:=v) ?_ ⟨GS.Le.refl s,rfl⟩
 simp only [execOp,hop,e1,e2,Sem.run_bind,this,Result.andThen_ok,Sem.run_pure]
theorem RM{x y:Operand}{U:TypeId}{a b:Nat->Int}(hx:arg x = .d (BF (BW a)))(hy:arg y = .d (BF (BW b))):Quiet Tryz.prog hp ⟨dd,.binOp .eql 60 x y U,ty,ps,af,gd⟩ arg (.d (ex (.bool (Nj a b)))):=
 Tz rfl hx hy (λ_ _ h=>Eh h) (λ_ _ h=>Eh h) λw=>Wi a b w
theorem Xc{x y:Operand}{U:TypeId}{a b:Nat->Int}(hx:arg x = .d (BF (BW a)))(hy:arg y = .d (BF (BW b)))(h:Nj a b=true):Quiet Tryz.prog hp ⟨dd,.binOp .eql 60 x y U,ty,ps,af,gd⟩ arg (.d (ex (.bool true))):=by
 rw [<-h];exact RM hx hy
theorem Xd{x y:Operand}{U:TypeId}{a b:Nat->Int}(hx:arg x = .d (BF (BW a)))(hy:arg y = .d (BF (BW b)))(h:Nj a b=false):Quiet Tryz.prog hp ⟨dd,.binOp .eql 60 x y U,ty,ps,af,gd⟩ arg (.d (ex (.bool false))):=by
 rw [<-h];exact RM hx hy
end
section
variable {P:Program} {s0:An} {n:Nat} {ops:Array Oper} {Q:Exit->AS->Prop} {rest:List Oper} {fr:List (Nat×AV)} {hp:List Ow} {ty:TypeId} {ps:String} {af:Array Edge}
theorem Sb{T T0:TypeId}{d:TypeDesc}{b id off:Nat}{z:Value}{x y:Operand}{cs cs':List D}{u:D}{hp':List Ow}(hx:AS.arg ⟨fr,hp⟩ x = .ptr id off)(hy:AS.arg ⟨fr,hp⟩ y = .d u)(hh:hp[id]? = some (.var T0 (cs.map .d)))(ht:Tab P T d 1 b z)(h1:One hp (.d u))(hc:SetAt cs off [u] cs')(hs:DI hp id (.var T0 (cs'.map .d))=some hp')
  (h:AWl P s0 n ops Q rest ⟨fr,hp'⟩):AWl P s0 n ops Q (⟨none,.store T x y,ty,ps,af,none⟩::rest) ⟨fr,hp⟩:=by
 have hlt:off<cs.length:=hc.le
 refine KR (o:=⟨none,.store T x y,ty,ps,af,none⟩) rfl rfl rfl hx hy hh ht h1 hlt ?_
 have e1:=hc.eq
 have:Ny cs off [u]=cs.set off u:=by
  unfold Ny
  rw [List.set_eq_take_append_cons_drop,if_pos hlt]
  rfl
 rw [this] at e1
 rw [CZ hs,<-e1] at h
 exact h
end
theorem NC:∀{hp hp':List Ow} {i:Nat} {x:Ow},hp[i]? = some x->DI hp i x=some hp'->hp'=hp
 | [],_,_,_,h,_=>by cases h
 | o::l,hp',0,x,h,h'=>by cases h;cases h';rfl
 | o::l,hp',i+1,x,h,h'=>by
  unfold DI at h'
  split at h'
  .rename_i r hr
   cases h'
   rw [NC (by simpa using h) hr]
  .cases h'
theorem A04{P:Program}{s0:An}{n:Nat}{ops:Array Oper}{Q:Exit->AS->Prop}{l:List Oper}{fr:List (Nat×AV)}{hp hp':List Ow}{T:TypeId}{cs:List D}(id:Nat)(cs':List D)(hh:hp[id]? = some (.var T (cs.map .d)))(he:cs=cs')(hs:DI hp id (.var T (cs'.map .d))=some hp')(h:AWl P s0 n ops Q l ⟨fr,hp'⟩):AWl P s0 n ops Q l ⟨fr,hp⟩:=by
 subst he
 rw [NC hh hs] at h
 exact h
theorem D.le.trans{x y z:D}(h:D.le x y)(h':D.le y z):D.le x z:=λs v hv=>h' s v (h s v hv)
theorem BM{x y x' y':D}(h:D.le x x')(h':D.le y y'):D.le (CK [x,y]) (CK [x',y']):=λs v hv=>by
 obtain ⟨vs,e,hl,hk⟩:=hv
 refine ⟨vs,e,hl,λk hk'=>?_⟩
 obtain ⟨u,h1,h2⟩:=hk k hk'
 match k,hk' with
 | 0,_=>exact ⟨u,h1,h s u h2⟩
 | 1,_=>exact ⟨u,h1,h' s u h2⟩
 | k+2,hk'=>exact absurd hk' (by simp)
theorem Dq{P Q:List Tm}(h:P=Q):D.le (Bp P) (Bp Q):=Be (by rw [h])
theorem Fp:D.le (ex (.slice none 0 0)) (Bp []):=DY
section
variable {P:Program} {hp:List Ow} {arg:Operand->AV} {dd:Option Tmp} {ty:TypeId} {ps:String} {af:Array Edge} {gd:Option (Nat×Bool)}
theorem A1e{x:Operand}{t:TypeId}{e n b:Nat}{z:Value}{l:List Nat}(hx:arg x = .d (wD l))(ht:Tab P t (.slice e) n b z):Quiet P hp ⟨dd,.call { callee:=.builtin .len,args:=#[x],argTypes:=#[t] },ty,ps,af,gd⟩ arg (.d (ex (.int .i64 (l.length:Nat)))):=by
 refine ⟨λbase s ρ ev hok hbs hhp h=>?_⟩
 have h1:=h x (by simp [Op.operands,Call.operands])
 rw [hx] at h1
 obtain ⟨A,c,e1,h2⟩:=h1.1
 rw [List.length_map] at e1
 refine BO (v:=.int .i64 l.length) ?_ ⟨GS.Le.refl s,rfl⟩
 simp [execOp,resolve,invoke,builtin,e1,Builtin.len_,run_underlying ht.und,goInt]
theorem WZ{x y:Operand}{t:TypeId}{e n b b' k:Nat}{d:TypeDesc}{z z':Value}{l:List Nat}{κ:IntKind}(hx:arg x = .d (wD l))(hy:arg y = .d (ex (.int κ ((k:Nat):Int))))(ht:Tab P t (.slice e) n b z)(he:Tab P e d 1 b' z')(hk:k<l.length):Quiet P hp ⟨dd,.indexAddr t x y,ty,ps,af,gd⟩ arg (.d (Is 108 [ex (.int .u32 (l.getD k 0:Nat))])):=by
 refine ⟨λbase s ρ ev hok hbs hhp h=>?_⟩
 have h1:=h x (by simp [Op.operands])
 have h2:=h y (by simp [Op.operands])
 rw [hx] at h1;rw [hy] at h2
 have e2:ev y = .int κ ((k:Nat):Int):=h2
 obtain ⟨A,c,e1,h3,h4,h5⟩:=h1.1
 rw [List.length_map] at e1 h5
 obtain ⟨g,p,rfl,h6⟩:=h5 (by omega)
 have h7:=(h6 k hk).2
 have e3:(l.map λx=>[ex (.int .u32 (x:Nat))]).getD k []=[ex (.int .u32 (l.getD k 0:Nat))]:=by
  simp [List.getD_eq_getElem?_getD,hk]
 rw [e3] at h7
 refine BO (v:=.pointer (some ⟨g,p+k*1,none⟩)) ?_ ⟨GS.Le.refl s,g,_,rfl,h7⟩
 have hb:k<l.length:=hk
 simp [execOp,e1,e2,Instr.indexAt,asIntOf,run_underlying ht.und,hb,he.run_size,Addr.add_lit]
end
theorem GA(z:Int):Abs Tryz.prog 95 [BF (Dz z)] (ex (.bool (decide (z=1)))):=by
 refine Bh (AG Tryz.func95 (by kernel_rfl) (by kernel_rfl)) λs vs hok hl hv=>?_
 rw [vs1 hl]
 obtain ⟨x0,X0,n0,c0,e0,h0⟩:=Ce (hv 0 (by simp))
 rw [e0]
 exact (Cq x0 X0 n0 c0 z _ h0).mono λe w' ⟨he,hE⟩=>⟨_,he,hE,λs' hw hok' _ _=>rfl⟩
theorem Ep(z:Int):Abs Tryz.prog 71 [BF (Dz z)] (ex (.int .i64 z.sign)):=by
 refine Bh (AG Tryz.func71 (by kernel_rfl) (by kernel_rfl)) λs vs hok hl hv=>?_
 rw [vs1 hl]
 obtain ⟨x0,X0,n0,c0,e0,h0⟩:=Ce (hv 0 (by simp))
 rw [e0]
 exact (LE x0 X0 n0 c0 z _ h0).mono λe w' ⟨he,hE⟩=>⟨_,he,hE,λs' hw hok' _ _=>rfl⟩
theorem A0O(x y:Int)(hn:(Am x.natAbs).length<=4398046511104)(hn':(Am y.natAbs).length<=4398046511104):Abs Tryz.prog 96 [BF (Dz x),BF (Dz y)] (BF (Dz (Nat.gcd x.natAbs y.natAbs:Nat))):=by
 refine Bh (AG Tryz.func96 (by kernel_rfl) (by kernel_rfl)) λs vs hok hl hv=>?_
 rw [Nb hl]
 obtain ⟨x0,X0,n0,c0,e0,h0⟩:=Ce (hv 0 (by simp))
 obtain ⟨x1,X1,n1,c1,e1,h1⟩:=Ce (hv 1 (by simp))
 rw [e0,e1]
 exact (UA x0 x1 X0 X1 n0 c0 n1 c1 x y _ h0 h1 hn hn').mono λe w' ⟨y,Y,m,k,he,hI,hE⟩=>⟨_,he,hE,λs' hw hok' _ _=>by subst hw;exact GP hok' hI⟩
theorem A0H(x y:Int)(hn:(Am x.natAbs).length<=4398046511104)(hn':(Am y.natAbs).length<=4398046511104):Abs Tryz.prog 123 [BF (Dz x),BF (Dz y)] (BF (Dz (x*y))):=by
 refine Bh (AG Tryz.func123 (by kernel_rfl) (by kernel_rfl)) λs vs hok hl hv=>?_
 rw [Nb hl]
 obtain ⟨x0,X0,n0,c0,e0,h0⟩:=Ce (hv 0 (by simp))
 obtain ⟨x1,X1,n1,c1,e1,h1⟩:=Ce (hv 1 (by simp))
 rw [e0,e1]
 exact (OY x0 x1 X0 X1 n0 c0 n1 c1 x y _ h0 h1 hn hn').mono λe w' ⟨y,Y,m,k,he,hI,hE⟩=>⟨_,he,hE,λs' hw hok' _ _=>by subst hw;exact GP hok' hI⟩
theorem A22(z:Int)(h0:-9223372036854775808<=z)(h1:z<=9223372036854775807):Abs Tryz.prog 122 [ex (.int .i64 z)] (BF (Dz z)):=by
 refine Bh (AG Tryz.func122 (by kernel_rfl) (by kernel_rfl)) λs vs hok hl hv=>?_
 rw [vs1 hl]
 have e0:vs.getD 0 undef = .int .i64 z:=hv 0 (by simp)
 rw [e0]
 exact (Yw z _ h0 h1).mono λe w' ⟨y,Y,m,k,he,hI,hE⟩=>⟨_,he,hE,λs' hw hok' _ _=>by subst hw;exact GP hok' hI⟩
theorem Zt(x y:Int)(hn:(Am x.natAbs).length<=4398046511103)(hn':(Am y.natAbs).length<=4398046511103):Abs Tryz.prog 40 [BF (Dz x),BF (Dz y)] (BF (Dz (Nat.gcd x.natAbs y.natAbs:Nat))):=by
 refine Bh (AG Tryz.func40 (by kernel_rfl) (by kernel_rfl)) λs vs hok hl hv=>?_
 rw [Nb hl]
 obtain ⟨x0,X0,n0,c0,e0,h0⟩:=Ce (hv 0 (by simp))
 obtain ⟨x1,X1,n1,c1,e1,h1⟩:=Ce (hv 1 (by simp))
 rw [e0,e1]
 exact (MN x0 x1 X0 X1 n0 c0 n1 c1 x y _ h0 h1 hn hn').mono λe w' ⟨y,Y,m,k,he,hI,hE⟩=>⟨_,he,hE,λs' hw hok' _ _=>by subst hw;exact GP hok' hI⟩
theorem Ci(z:Int)(h0:-9223372036854775808<=z)(h1:z<=9223372036854775807):Abs Tryz.prog 41 [ex (.int .i64 z)] (BF (Dz z)):=by
 refine Bh (AG Tryz.func41 (by kernel_rfl) (by kernel_rfl)) λs vs hok hl hv=>?_
 rw [vs1 hl]
 have e0:vs.getD 0 undef = .int .i64 z:=hv 0 (by simp)
 rw [e0]
 exact (PA z _ h0 h1).mono λe w' ⟨y,Y,m,k,he,hI,hE⟩=>⟨_,he,hE,λs' hw hok' _ _=>by subst hw;exact GP hok' hI⟩
theorem KG(x y:Nat):Abs Tryz.prog 121 [wD (Am x),wD (Am y)] (ex (.int .i64 (Df x y))):=by
 refine Bh (AG Tryz.func121 (by kernel_rfl) (by kernel_rfl)) λs vs hok hl hv=>?_
 rw [Nb hl]
 exact (Ek _ _ x y _ (En (hv 0 (by simp))) (En (hv 1 (by simp)))).mono λe w' ⟨he,hE⟩=>⟨_,he,hE,λs' hw hok' _ _=>rfl⟩
theorem Iu(x y:Nat):Abs Tryz.prog 75 [wD (Am x),wD (Am y)] (ex (.int .i64 (Df x y))):=by
 refine Bh (AG Tryz.func75 (by kernel_rfl) (by kernel_rfl)) λs vs hok hl hv=>?_
 rw [Nb hl]
 exact (Ds _ _ x y _ (En (hv 0 (by simp))) (En (hv 1 (by simp)))).mono λe w' ⟨he,hE⟩=>⟨_,he,hE,λs' hw hok' _ _=>rfl⟩
section
variable {P:Program} {hp:List Ow} {arg:Operand->AV} {dd:Option Tmp} {ty:TypeId} {ps:String} {af:Array Edge} {gd:Option (Nat×Bool)}
theorem A2E{T:TypeId}{x:Operand}{a:Int}(hx:arg x = .d (ex (.int .i64 a)))(h1:-9223372036854775807<=a)(h2:a<=9223372036854775807):Quiet P hp ⟨dd,.unOp .neg T x,ty,ps,af,gd⟩ arg (.d (ex (.int .i64 (-a)))):=by
 refine ⟨λbase s ρ ev hok hbs hhp h=>?_⟩
 have h3:=h x (by simp [Op.operands])
 rw [hx] at h3
 have e1:ev x = .int .i64 a:=h3
 have e2:IntKind.i64.wrap (-a) = -a:=IntWalk.i64_in _ (by omega)
 exact BO (v:=.int .i64 (-a)) (by simp [execOp,e1,Op.unary,Op.intArith,e2]) ⟨GS.Le.refl s,rfl⟩
theorem Xe{S T:TypeId}{x:Operand}{k:IntKind}{a:Int}{d:TypeDesc}{n b n' b':Nat}{z z':Value}(hx:arg x = .d (ex (.int k a)))(hS:Tab P S d n b z)(hT:Tab P T (.int .i64) n' b' z')(h1:-9223372036854775808<=a)(h2:a<=9223372036854775807):Quiet P hp ⟨dd,.convert S T x,ty,ps,af,gd⟩ arg (.d (ex (.int .i64 a))):=by
 have:=A1j (hp:=hp) (dd:=dd) (ty:=ty) (ps:=ps) (af:=af) (gd:=gd) hx hS hT
 rwa [IntWalk.i64_in _ (by omega)] at this
end
section
variable {P:Program} {hp:List Ow} {arg:Operand->AV} {dd:Option Tmp} {ty:TypeId} {ps:String} {af:Array Edge} {gd:Option (Nat×Bool)}
end
inductive AddE(e:Nat):List Oper->List Oper->Prop
 | nil:AddE e [] []
 | keep {o:Oper} {l l':List Oper} (h:AddE e l l'):AddE e (o::l) (o::l')
 | add {dd:Option Tmp} {op:Op} {ty:TypeId} {ps:String} {af:Array Edge} {gd:Option (Nat×Bool)} {l l':List Oper} (h:AddE e l l'):AddE e (⟨dd,op,ty,ps,af,gd⟩::l) (⟨dd,op,ty,ps,af.push ⟨e,.data⟩,gd⟩::l')
theorem AddE.length{e:Nat}{l l':List Oper}(h:AddE e l l'):l.length=l'.length:=by
 induction h<;>simp_all
theorem AddE.at{e:Nat}{l l':List Oper}(h:AddE e l l'):∀(i:Nat) (o:Oper),l[i]? = some o->∃o',l'[i]? = some o'/\(o'=o\/o'={ o with after:=o.after.push ⟨e,.data⟩ }):=by
 induction h with
 | nil=>intro i o ho;simp at ho
 | keep h ih=>
  intro i o ho
  cases i with
  | zero=>simp at ho;subst ho;exact ⟨_,by simp,.inl rfl⟩
  | succ i=>simpa using ih i o (by simpa using ho)
 | add h ih=>
  intro i o ho
  cases i with
  | zero=>simp at ho;subst ho;exact ⟨_,by simp,.inr rfl⟩
  | succ i=>simpa using ih i o (by simpa using ho)
def SO(e:Nat)(L L':List Oper):Bool:=
 match L[e]?,L'[e]? with
 | some oe,some oe'=>(match oe.op with | .extract _ _=>true | .move _=>true | _=>false)&&oe.guard.isNone&&(BT oe==BT oe') &&
  ((List.range L.length).all λi=>match L[i]?,L'[i]? with
   | some o,some o'=>(BT o==BT o')||(BT oe).all λj=>(BT o).contains j
   | _,_=>false) &&
  ((List.range L.length).all λj=>j==e||match L[j]? with
   | some o=>(BT o).contains e||(BT oe).contains j||oe.apart L.toArray o
   | none=>false) &&
  L.all λo=>Cd o.op
 | _,_=>false
theorem QY{P:Program}{o:Oper}{a:Act}(hop:(∃x n,o.op = .extract x n)\/∃x,o.op = .move x):(∃v,∀w,(execOp a.eval o).run P w = .ok (.value v) w)\/∀(K:Act->World->Prop) (Q:Exit->Act->World->Prop) w,¬o.wp P a w K Q:=by
 rcases hop with ⟨x,n,hop⟩ | ⟨x,hop⟩
 case inr=>exact .inl ⟨a.eval x,λw=>by simp [execOp,hop]⟩
 cases hx:a.eval x with
 | tuple cs=>
  cases hc:cs[n]? with
  | some v=>exact .inl ⟨v,λw=>by simp [execOp,hop,Instr.extract,hx,hc]⟩
  | none=>
   refine .inr λK Q w hw=>?_
   simp [Oper.wp,execOp,hop,Instr.extract,hx,hc,stuck,Oper.upon] at hw
 | _=>
  refine .inr λK Q w hw=>?_
  simp [Oper.wp,execOp,hop,Instr.extract,hx,stuck,Oper.upon] at hw
theorem Es{L:List Oper}{j:Nat}{o:Oper}{listed:Array Bool}(hsz:listed.size=L.length)(ho:L[j]? = some o):j∈Region.ready .any L.toArray listed↔listed.getD j false=false/\∀k∈BT o,listed.getD k false=true:=by
 have hlt:j<listed.size:=by rw [hsz];exact (List.getElem?_eq_some_iff.1 ho).1
 rw [mem_ready]
 have e:listed.getD j true=listed.getD j false:=by simp [hlt]
 rw [e]
 refine and_congr_right λ_=>⟨λ⟨o',h1,h2⟩ k hk=>?_,λh=>⟨o,by simpa using ho,λe he hb=>h _ (Ie he hb)⟩⟩
 obtain rfl:o'=o:=by rw [List.getElem?_toArray,ho] at h1;exact (Option.some.inj h1).symm
 obtain ⟨e,he,hb,rfl⟩:=GC hk
 exact h2 e he hb
theorem Wj{o:Oper}{e:Nat}{k:Nat}(h:k∈BT o):k∈BT { o with after:=o.after.push ⟨e,.data⟩ }:=by
 obtain ⟨x,hx,hb,rfl⟩:=GC h
 exact Ie (by simp [hx]) hb
theorem Oa{o:Oper}{e:Nat}{k:Nat}(h:k∈BT { o with after:=o.after.push ⟨e,.data⟩ }):k∈BT o\/k=e:=by
 obtain ⟨x,hx,hb,rfl⟩:=GC h
 rcases Array.mem_push.1 hx with hx | rfl
 .exact .inl (Ie hx hb)
 .exact .inr rfl
theorem Qf{P:Program}{Q:Exit->Act->World->Prop}{e:Nat}{L L':List Oper}(hL:AddE e L L')(hb:SO e L L'=true)(hQ:∀c a w,¬Q (.panic c) a w)(hQ':¬LetsOut Q):∀(f:Nat) (listed:Array Bool) (a:Act) (w:World),listed.size=L.length ->
  (∀j o,L[j]? = some o->listed.getD j false=true->∀k∈BT o,listed.getD k false=true) ->
  wpAny P .any L'.toArray Q f listed a w->wpAny P .any L.toArray Q f listed a w:=by
 obtain ⟨oe,oe',he,he',hb1,hb2,hb3,hb4,hb5,hb6⟩:∃oe oe',L[e]? = some oe/\L'[e]? = some oe'/\((∃x n,oe.op = .extract x n)\/∃x,oe.op = .move x)/\oe.guard=none/\BT oe=BT oe'/\(∀i o o',L[i]? = some o->L'[i]? = some o'->BT o=BT o'\/∀j∈BT oe,j∈BT o)/\(∀j o,L[j]? = some o->j=e\/e∈BT o\/j∈BT oe\/oe.apart L.toArray o=true)/\∀o∈L,Cd o.op=true:=by
  unfold SO at hb
  split at hb
  .rename_i oe oe' he he'
   simp only [Bool.and_eq_true] at hb
   obtain ⟨⟨⟨⟨⟨h1,h2⟩,h3⟩,h4⟩,h5⟩,h6⟩:=hb
   refine ⟨oe,oe',he,he',?_,by simpa using h2,by simpa using h3,λi o o' ho ho'=>?_,λj o ho=>?_,λo ho=>List.all_eq_true.1 h6 o ho⟩
   .split at h1
    .exact .inl ⟨_,_,by assumption⟩
    .exact .inr ⟨_,by assumption⟩
    .cases h1
   .have:=List.all_eq_true.1 h4 i (List.mem_range.2 (List.getElem?_eq_some_iff.1 ho).1)
    rw [ho,ho'] at this
    simpa using this
   .have:=List.all_eq_true.1 h5 j (List.mem_range.2 (List.getElem?_eq_some_iff.1 ho).1)
    rw [ho] at this
    simp only [Bool.or_eq_true,beq_iff_eq] at this
    simp only [List.contains_iff_mem] at this
    rcases this with h | (h | h) | h
    .exact .inl h
    .exact .inr (.inl h)
    .exact .inr (.inr (.inl h))
    .exact .inr (.inr (.inr h))
  .cases hb
 have hop:=hb1
 have hlen:=hL.length
 have hel:e<L.length:=(List.getElem?_eq_some_iff.1 he).1
 have hsel:∀(j:Nat) (o:Oper) cs b,L.toArray[j]? = some o->o.op ≠ .select cs b:=λj o cs b ho h=>by
  have:=hb6 o (List.mem_of_getElem? (i:=j) (by simpa using ho))
  rw [h] at this
  cases this
 intro f
 induction f with
 | zero=>
  intro listed a w hsz hcl h
  refine ⟨?_,h.2⟩
  have h1:=h.1
  refine List.eq_nil_iff_forall_not_mem.2 λi hi=>?_
  obtain ⟨_,o,ho,_⟩:=mem_ready.1 hi
  have ho:L[i]? = some o:=by simpa using ho
  obtain ⟨o',ho',hoo⟩:=hL.at i o ho
  have hi2:=(Es hsz ho).1 hi
  by_cases hr:i∈Region.ready .any L'.toArray listed
  .rw [h1] at hr;cases hr
  .have hr':e∈Region.ready .any L'.toArray listed:=by
    rw [Es (by rw [hsz,hlen]) ho'] at hr
    rw [Es (by rw [hsz,hlen]) he',<-hb3]
    rcases hb4 i o o' ho ho' with h | h
    .exact absurd ⟨hi2.1,by rw [<-h];exact hi2.2⟩ hr
    .refine ⟨?_,λk hk=>hi2.2 k (h k hk)⟩
     cases hg:listed.getD e false with
     | false=>rfl
     | true=>
      refine absurd ⟨hi2.1,λk hk=>?_⟩ hr
      rcases hoo with rfl | rfl
      .exact hi2.2 k hk
      .rcases Oa hk with hk | rfl
       .exact hi2.2 k hk
       .exact hg
   rw [h1] at hr';cases hr'
 | succ f ih=>
  intro listed a w hsz hcl h
  by_cases hre:e∈Region.ready .any L.toArray listed
  .have hre2:=(Es hsz he).1 hre
   have hre':e∈Region.ready .any L'.toArray listed:=(Es (by rw [hsz,hlen]) he').2 ⟨hre2.1,by rw [<-hb3];exact hre2.2⟩
   have h1:=h.2 e hre'
   obtain ⟨oe2,he2,hoo⟩:=hL.at e oe he
   obtain rfl:oe2=oe':=Option.some.inj (he2.symm.trans he')
   have hex:execOp a.eval oe2=execOp a.eval oe:=by rcases hoo with rfl | rfl<;>rfl
   have hgd:oe2.guard=none:=by rcases hoo with rfl | rfl<;>exact hb2
   have hds:oe2.dst=oe.dst:=by rcases hoo with rfl | rfl<;>rfl
   unfold wpOp at h1
   rw [show L'.toArray[e]? = some oe2 by simpa using he'] at h1
   simp only [Region.wanted,hgd,if_true] at h1
   have h1:oe2.wp P a w (wpAny P .any L'.toArray Q f (listed.setIfInBounds e true)) Q:=h1.elim id λh=>absurd h.2 hQ'
   rcases QY (P:=P) (a:=a) hop with ⟨v,hv⟩ | hno
   .have h2:wpAny P .any L'.toArray Q f (listed.setIfInBounds e true) (a.put oe.dst v) w:=by
     unfold Oper.wp at h1
     rw [hex,hv w,Oper.upon_value,hds] at h1
     exact h1
    refine wpAny_first (v:=v) (show L.toArray[e]? = some oe by simpa using he) hsel (λc a w h=>absurd h (hQ c _ w)) f listed a w (λj oj hj hne hun hno=>?_) hre (.inl ⟨by simp [Region.wanted,hb2],hv⟩) (ih _ _ _ (by simpa using hsz) (λj o ho hl k hk=>?_) h2)
    .have hj:L[j]? = some oj:=by simpa using hj
     rcases hb5 j oj hj with h | h | h | h
     .exact absurd h hne
     .obtain ⟨x,hx,hbx,hxe⟩:=GC h
      exact absurd hxe (hno x hx hbx)
     .have:=hre2.2 j h
      have hlt:j<listed.size:=by rw [hsz];exact (List.getElem?_eq_some_iff.1 hj).1
      simp [hlt] at this hun
      rw [this] at hun;cases hun
     .exact h
    .by_cases hje:j=e
     .subst hje
      obtain rfl:o=oe:=Option.some.inj (ho.symm.trans he)
      exact getD_set_true (hre2.2 k hk)
     .rw [getD_set_ne false (λh=>hje h.symm)] at hl
      exact getD_set_true (hcl j o ho hl k hk)
   .exfalso
    refine hno (wpAny P .any L'.toArray Q f (listed.setIfInBounds e true)) Q w ?_
    unfold Oper.wp at h1 ⊢
    rw [hex] at h1
    have:∀(r:Result Next),oe2.upon P a (wpAny P .any L'.toArray Q f (listed.setIfInBounds e true)) Q r=oe.upon P a (wpAny P .any L'.toArray Q f (listed.setIfInBounds e true)) Q r:=λr=>by
     rcases hoo with rfl | rfl<;>rfl
    rwa [this] at h1
  .have same:∀i,i∈Region.ready .any L.toArray listed↔i∈Region.ready .any L'.toArray listed:=λi=>by
    by_cases hil:i<L.length
    .have ho:L[i]? = some L[i]:=List.getElem?_eq_getElem hil
     obtain ⟨o',ho',hoo⟩:=hL.at i _ ho
     rw [Es hsz ho,Es (by rw [hsz,hlen]) ho']
     refine and_congr_right λhun=>⟨λh k hk=>?_,λh k hk=>?_⟩
     .rcases hb4 i _ o' ho ho' with h' | h'
      .exact h k (by rw [h'];exact hk)
      .rcases hoo with rfl | rfl
       .exact h k hk
       .rcases Oa hk with hk | rfl
        .exact h k hk
        .cases hg:listed.getD k false with
         | true=>rfl
         | false=>exact absurd ((Es hsz he).2 ⟨hg,λj hj=>h j (h' j hj)⟩) hre
     .rcases hoo with rfl | rfl
      .exact h k hk
      .exact h k (Wj hk)
    .constructor
     .intro h
      obtain ⟨_,o,ho,_⟩:=mem_ready.1 h
      have:=(Array.getElem?_eq_some_iff.1 ho).1
      simp at this
      exact absurd this hil
     .intro h
      obtain ⟨_,o,ho,_⟩:=mem_ready.1 h
      have:=(Array.getElem?_eq_some_iff.1 ho).1
      simp at this
      exact absurd (by omega) hil
   refine ⟨λhn=>h.1 (List.eq_nil_iff_forall_not_mem.2 λi hi=>?_),λi hi=>?_⟩
   .have:=(same i).2 hi
    rw [hn] at this;cases this
   .have h1:=h.2 i ((same i).1 hi)
    obtain ⟨_,o,ho,_⟩:=mem_ready.1 hi
    have ho:L[i]? = some o:=by simpa using ho
    obtain ⟨o',ho',hoo⟩:=hL.at i o ho
    have hi2:=(Es hsz ho).1 hi
    have hyl:∀t,yielded L'.toArray t=yielded L.toArray t:=λt=>by
     funext j
     unfold yielded
     simp only [List.getElem?_toArray]
     cases hj:L[j]? with
     | none=>
      have:L'[j]? = none:=by rw [List.getElem?_eq_none_iff] at hj ⊢;omega
      rw [this]
     | some oj=>
      obtain ⟨oj',hj',hjj⟩:=hL.at j oj hj
      rw [hj']
      rcases hjj with rfl | rfl<;>rfl
    have hcl2:∀j o,L[j]? = some o->(listed.setIfInBounds i true).getD j false=true->∀k∈BT o,(listed.setIfInBounds i true).getD k false=true:=λj oj hoj hl k hk=>by
     by_cases hji:j=i
     .subst hji
      obtain rfl:oj=o:=Option.some.inj (hoj.symm.trans ho)
      exact getD_set_true (hi2.2 k hk)
     .rw [getD_set_ne false (λh=>hji h.symm)] at hl
      exact getD_set_true (hcl j oj hoj hl k hk)
    refine wpOp_mono (λa w h=>ih _ a w (by simpa using hsz) hcl2 h) ?_
    unfold wpOp at h1 ⊢
    rw [show L'.toArray[i]? = some o' by simpa using ho'] at h1
    rw [show L.toArray[i]? = some o by simpa using ho]
    rw [hyl] at h1
    rcases hoo with rfl | rfl
    .exact h1
    .exact h1
structure OnlyN(Q:Exit->AS->Prop)(e:Exit)(σ:AS):Prop where
 how:e = .normal
 run:Q .normal σ
theorem OnlyN.mk'{Q:Exit->AS->Prop}{σ:AS}(h:Q .normal σ):OnlyN Q .normal σ:=⟨rfl,h⟩
theorem DR{P:Program}{s0:An}{n:Nat}{id:Nat}{e:Nat}{L L':List Oper}{Q:Exit->AS->Prop}(hm:P.follows .mixedOrders=true)(hL:AddE e L L')(hb:SO e L L'=true):DrawOk P s0 n id L.toArray L' Q (OnlyN Q):=⟨λa w h=>by
 have hfz:∀j,(Array.replicate L.toArray.size false).getD j false=false:=λj=>by
  rcases Nat.lt_or_ge j L.length with h | h
  .simp [h]
  .simp [h]
 have hs:L'.toArray.size=L.toArray.size:=by simp [hL.length]
 rw [hs] at h
 have hp:∀c a w,¬IH s0 n (OnlyN Q) (.panic c) a w:=λc a w ⟨σ,h,_⟩=>by have:=h.how;cases this
 have hl:¬LetsOut (IH s0 n (OnlyN Q)):=λ⟨a,w,σ,h,_⟩=>by have:=h.how;cases this
 have h1:=Qf hL hb hp hl _ _ _ _ (by simp) (λj o _ hl=>by rw [hfz] at hl;cases hl) h
 exact wp_mono (wp_region_any hm h1) λex a' w' ⟨σ,h,hs⟩=>by
  obtain ⟨rfl,h⟩:=h
  exact ⟨σ,h,hs⟩⟩
section
variable {P:Program} {hp:List Ow} {arg:Operand->AV} {dd:Option Tmp} {ty:TypeId} {ps:String} {af:Array Edge} {gd:Option (Nat×Bool)}
theorem Ae{x:Operand}{r:AV}(hx:arg x=r:=by first | exact ao rfl | exact ah rfl):Quiet P hp ⟨dd,.move x,ty,ps,af,gd⟩ arg r:=GY hx
theorem Oo{x:Operand}{r:AV}(hx:arg x=r:=by first | exact ao rfl | exact ah rfl):Quiet P hp ⟨dd,.assign x,ty,ps,af,gd⟩ arg r:=Fo hx
theorem Ar{x:Operand}{t:TypeId}{d:TypeDesc}{n b T id off:Nat}{z:Value}{ds r:List D}(hx:arg x = .ptr id off:=by first | exact ao rfl | exact ah rfl)(hh:hp[id]? = some (.var T (ds.map .d)):=by exact rfl)(ht:Tab P t d n b z:=by exact (Ad rfl))(hd:Ec d=true:=by exact rfl)(hr:XL off n ds=some r:=by exact rfl):Quiet P hp ⟨dd,.load t x,ty,ps,af,gd⟩ arg (.d (BF r)):=A2I hx hh ht hd hr
theorem AI{x:Operand}{t:TypeId}{d:TypeDesc}{n b T id off:Nat}{z:Value}{ds:List D}{r:D}(hx:arg x = .ptr id off:=by first | exact ao rfl | exact ah rfl)(hh:hp[id]? = some (.var T (ds.map .d)):=by exact rfl)(ht:Tab P t d n b z:=by exact (Ad rfl))(hd:Ec d=false:=by exact rfl)(hr:Zn off ds=some r:=by exact rfl):Quiet P hp ⟨dd,.load t x,ty,ps,af,gd⟩ arg (.d r):=A1h hx hh ht hd hr
theorem As{x:Operand}{t:TypeId}{d:TypeDesc}{n b T:Nat}{z:Value}{ds:List D}(hx:arg x = .d (Is T ds):=by first | exact ao rfl | exact ah rfl)(ht:Tab P t d n b z:=by exact (Ad rfl))(hd:Ec d=true:=by exact rfl)(hn:ds.length=n:=by exact rfl):Quiet P hp ⟨dd,.load t x,ty,ps,af,gd⟩ arg (.d (BF ds)):=Oq hx ht hd hn
theorem CP{x:Operand}{t:TypeId}{d:TypeDesc}{n b T:Nat}{z:Value}{ds r:List D}(hx:arg x = .d (Is T ds):=by first | exact ao rfl | exact ah rfl)(ht:Tab P t d n b z:=by exact (Ad rfl))(hd:Ec d=true:=by exact rfl)(hr:Lx n ds=some r:=by exact rfl):Quiet P hp ⟨dd,.load t x,ty,ps,af,gd⟩ arg (.d (BF r)):=ZM hx ht hd hr
theorem BG{x:Operand}{t:TypeId}{d:TypeDesc}{n b T:Nat}{z:Value}{ds:List D}{r:D}(hx:arg x = .d (Is T ds):=by first | exact ao rfl | exact ah rfl)(ht:Tab P t d n b z:=by exact (Ad rfl))(hd:Ec d=false:=by exact rfl)(hr:Zn 0 ds=some r:=by exact rfl):Quiet P hp ⟨dd,.load t x,ty,ps,af,gd⟩ arg (.d r):=A1g hx ht hd hr
theorem EG{x:Operand}{t:TypeId}{d:TypeDesc}{n b T id off:Nat}{z:Value}{ds:List D}{u:D}(hx:arg x = .ptr id off:=by first | exact ao rfl | exact ah rfl)(hh:hp[id]? = some (.var T (ds.map .d)):=by exact rfl)(ht:Tab P t d n b z:=by exact (Ad rfl))(hd:Ec d=false:=by exact rfl)(hc:CellAt ds off u:=by first | exact (RX (by first | omega | (simp;omega))) | exact (Xj (by first | omega | (simp;omega)))):Quiet P hp ⟨dd,.load t x,ty,ps,af,gd⟩ arg (.d u):=A1f hx hh ht hd hc
theorem Bc{x:Operand}{S:TypeId}{fs:Array Field}{f n b n' b' T:Nat}{fd:Field}{d:TypeDesc}{z z':Value}{ds r:List D}(hx:arg x = .d (Is T ds):=by first | exact ao rfl | exact ah rfl)(hS:Tab P S (.struct fs) n b z:=by exact (Ad rfl))(hf:fs[f]? = some fd:=by exact rfl)(he:Tab P fd.type d n' b' z':=by exact (Ad rfl))(hn:Nat.beq n' 0=false:=by exact rfl)(hr:Mt fd.offset ds=some r:=by exact rfl):Quiet P hp ⟨dd,.fieldAddr S x f,ty,ps,af,gd⟩ arg (.d (Is T r)):=UP hx hS hf he hn hr
theorem Aq{x:Operand}{S:TypeId}{fs:Array Field}{f n b n' b' id off:Nat}{fd:Field}{d:TypeDesc}{z z':Value}(hx:arg x = .ptr id off:=by first | exact ao rfl | exact ah rfl)(hS:Tab P S (.struct fs) n b z:=by exact (Ad rfl))(hf:fs[f]? = some fd:=by exact rfl)(he:Tab P fd.type d n' b' z':=by exact (Ad rfl))(hn:Nat.beq n' 0=false:=by exact rfl):Quiet P hp ⟨dd,.fieldAddr S x f,ty,ps,af,gd⟩ arg (.ptr id (off+fd.offset)):=A1i hx hS hf he hn
theorem El{α:Type}{x y:Operand}{t:TypeId}{e n b n' b' T sz:Nat}{d:TypeDesc}{z z':Value}{f:α->List D}{a:α}{l:List α}{κ:IntKind}(hx:Ew hp (arg x)=some (slD T sz ((a::l).map f)):=by exact rfl)(hy:arg y = .d (ex (.int κ 0)):=by first | exact ao rfl | exact ah rfl)(ht:Tab P t (.slice e) n b z:=by exact (Ad rfl))(he:Tab P e d n' b' z':=by exact (Ad rfl))(hsz:n'=sz:=by exact rfl):Quiet P hp ⟨dd,.indexAddr t x y,ty,ps,af,gd⟩ arg (.d (Is T (f a))):=Xb hx hy ht he hsz
theorem AC{α:Type}[Inhabited α]{x y:Operand}{t:TypeId}{e n b n' b' T sz k:Nat}{d:TypeDesc}{z z':Value}{f:α->List D}{l:List α}{κ:IntKind}(hx:Ew hp (arg x)=some (slD T sz (l.map f)):=by exact rfl)(hy:arg y = .d (ex (.int κ (k:Nat))):=by first | exact ao rfl | exact ah rfl)(ht:Tab P t (.slice e) n b z:=by exact (Ad rfl))(he:Tab P e d n' b' z':=by exact (Ad rfl))(hsz:n'=sz:=by exact rfl)(hk:k<l.length:=by first | omega | (simp;omega)):Quiet P hp ⟨dd,.indexAddr t x y,ty,ps,af,gd⟩ arg (.d (Is T (f (l.getD k default)))):=DQ hx hy ht he hsz hk
theorem GG{x y:Operand}{t:TypeId}{e n b n' b' T sz:Nat}{d:TypeDesc}{z z':Value}{rows:List (List D)}{r:List D}{κ:IntKind}{i:Int}(hx:Ew hp (arg x)=some (slD T sz rows):=by exact rfl)(hy:arg y = .d (ex (.int κ i)):=by first | exact ao rfl | exact ah rfl)(ht:Tab P t (.slice e) n b z:=by exact (Ad rfl))(he:Tab P e d n' b' z':=by exact (Ad rfl))(hsz:n'=sz:=by exact rfl)(hr:A0n rows i.toNat=some r:=by exact rfl)(h0:0<=i:=by omega):Quiet P hp ⟨dd,.indexAddr t x y,ty,ps,af,gd⟩ arg (.d (Is T r)):=Xa hx hy ht he hsz hr h0
theorem ET{x y:Operand}{t:TypeId}{e n b n' b' len id off k:Nat}{d:TypeDesc}{z z':Value}{κ:IntKind}(hx:arg x = .ptr id off:=by first | exact ao rfl | exact ah rfl)(hy:arg y = .d (ex (.int κ ((k:Nat):Int))):=by first | exact ao rfl | exact ah rfl)(ht:Tab P t (.array len e) n b z:=by exact (Ad rfl))(he:Tab P e d n' b' z':=by exact (Ad rfl))(hk:k<len:=by first | omega | (simp;omega)):Quiet P hp ⟨dd,.indexAddr t x y,ty,ps,af,gd⟩ arg (.ptr id (off+k*n')):=A2J hx hy ht he hk
theorem Om{x y:Operand}{t:TypeId}{e n b b' k:Nat}{d:TypeDesc}{z z':Value}{l:List Nat}{κ:IntKind}(hx:arg x = .d (wD l):=by first | exact ao rfl | exact ah rfl)(hy:arg y = .d (ex (.int κ ((k:Nat):Int))):=by first | exact ao rfl | exact ah rfl)(ht:Tab P t (.slice e) n b z:=by exact (Ad rfl))(he:Tab P e d 1 b' z':=by exact (Ad rfl))(hk:k<l.length:=by first | omega | (simp;omega)):Quiet P hp ⟨dd,.indexAddr t x y,ty,ps,af,gd⟩ arg (.d (Is 108 [ex (.int .u32 (l.getD k 0:Nat))])):=WZ hx hy ht he hk
theorem GF{α:Type}{x y:Operand}{t:TypeId}{e n b n' b' T sz:Nat}{d:TypeDesc}{z z':Value}{f:α->List D}{a:α}{l:List α}(hx:Ew hp (arg x)=some (slD T sz ((a::l).map f)):=by exact rfl)(hy:arg y = .d (ex (.int .i64 1)):=by first | exact ao rfl | exact ah rfl)(ht:Tab P t (.slice e) n b z:=by exact (Ad rfl))(he:Tab P e d n' b' z':=by exact (Ad rfl))(hsz:n'=sz:=by exact rfl):Quiet P hp ⟨dd,.slice t x (some y) none none,ty,ps,af,gd⟩ arg (.d (slD T sz (l.map f))):=ZJ hx hy ht he hsz
theorem AN{α:Type}{x:Operand}{t:TypeId}{e n b T sz:Nat}{z:Value}{f:α->List D}{l:List α}(hx:Ew hp (arg x)=some (slD T sz (l.map f)):=by exact rfl)(ht:Tab P t (.slice e) n b z:=by exact (Ad rfl)):Quiet P hp ⟨dd,.call { callee:=.builtin .len,args:=#[x],argTypes:=#[t] },ty,ps,af,gd⟩ arg (.d (ex (.int .i64 (l.length:Nat)))):=JE hx ht
theorem UM{x:Operand}{t:TypeId}{e n b:Nat}{z:Value}{l:List Nat}(hx:arg x = .d (wD l):=by first | exact ao rfl | exact ah rfl)(ht:Tab P t (.slice e) n b z:=by exact (Ad rfl)):Quiet P hp ⟨dd,.call { callee:=.builtin .len,args:=#[x],argTypes:=#[t] },ty,ps,af,gd⟩ arg (.d (ex (.int .i64 (l.length:Nat)))):=A1e hx ht
theorem A2y{x:Operand}{t:TypeId}{e n b T sz:Nat}{z:Value}{rows:List (List D)}(hx:Ew hp (arg x)=some (slD T sz rows):=by exact rfl)(ht:Tab P t (.slice e) n b z:=by exact (Ad rfl)):Quiet P hp ⟨dd,.call { callee:=.builtin .len,args:=#[x],argTypes:=#[t] },ty,ps,af,gd⟩ arg (.d (ex (.int .i64 rows.length))):=A2H hx ht
theorem AH{T U:TypeId}{x y:Operand}{a:Nat}(hx:arg x = .d (ex (.int .i64 (a:Nat))):=by first | exact ao rfl | exact ah rfl)(hy:arg y = .d (ex (.int .i64 1)):=by first | exact ao rfl | exact ah rfl)(h1:(a:Int)<9223372036854775807:=by omega):Quiet P hp ⟨dd,.binOp .add T x y U,ty,ps,af,gd⟩ arg (.d (ex (.int .i64 ((a+1:Nat):Int)))):=UN hx hy h1
theorem EU{T U:TypeId}{x y:Operand}{a b:Int}(hx:arg x = .d (ex (.int .i64 a)):=by first | exact ao rfl | exact ah rfl)(hy:arg y = .d (ex (.int .i64 b)):=by first | exact ao rfl | exact ah rfl)(h1:-9223372036854775808<=a+b:=by omega)(h2:a+b<=9223372036854775807:=by omega):Quiet P hp ⟨dd,.binOp .add T x y U,ty,ps,af,gd⟩ arg (.d (ex (.int .i64 (a+b)))):=A2L hx hy h1 h2
theorem Ln{T U:TypeId}{x y:Operand}{a:Nat}(hx:arg x = .d (ex (.int .i64 ((a:Nat):Int))):=by first | exact ao rfl | exact ah rfl)(hy:arg y = .d (ex (.int .i64 1)):=by first | exact ao rfl | exact ah rfl)(h0:0<a:=by omega)(h1:(a:Int)<9223372036854775807:=by omega):Quiet P hp ⟨dd,.binOp .sub T x y U,ty,ps,af,gd⟩ arg (.d (ex (.int .i64 ((a-1:Nat):Int)))):=A1c hx hy h0 h1
theorem A43{T U:TypeId}{x y:Operand}{a b:Int}(hx:arg x = .d (ex (.int .i64 a)):=by first | exact ao rfl | exact ah rfl)(hy:arg y = .d (ex (.int .i64 b)):=by first | exact ao rfl | exact ah rfl)(h0:0<=a:=by omega)(h1:a<=9223372036854775807:=by omega)(hb:0<b:=by omega):Quiet P hp ⟨dd,.binOp .quo T x y U,ty,ps,af,gd⟩ arg (.d (ex (.int .i64 (a/b)))):=A2C hx hy h0 h1 hb
theorem Co{T U:TypeId}{x y:Operand}{k:IntKind}{a b:Int}(hx:arg x = .d (ex (.int k a)):=by first | exact ao rfl | exact ah rfl)(hy:arg y = .d (ex (.int k b)):=by first | exact ao rfl | exact ah rfl)(h0:0<=a:=by omega)(hb:0<b:=by omega):Quiet P hp ⟨dd,.binOp .rem T x y U,ty,ps,af,gd⟩ arg (.d (ex (.int k (a%b)))):=A2B hx hy h0 hb
theorem Ai{op:BinOp}{T U:TypeId}{x y:Operand}{k:IntKind}{a b:Int}(hb:NT op=true:=by exact rfl)(hx:arg x = .d (ex (.int k a)):=by first | exact ao rfl | exact ah rfl)(hy:arg y = .d (ex (.int k b)):=by first | exact ao rfl | exact ah rfl)(hc:ER op a b:=by first | (simp only [ER,List.length_cons,List.length_nil];omega) | (simp [ER];done) | (simp [ER];omega)):Quiet P hp ⟨dd,.binOp op T x y U,ty,ps,af,gd⟩ arg (.d (ex (.bool true))):=UQ hb hx hy hc
theorem Aj{op:BinOp}{T U:TypeId}{x y:Operand}{k:IntKind}{a b:Int}(hb:NT op=true:=by exact rfl)(hx:arg x = .d (ex (.int k a)):=by first | exact ao rfl | exact ah rfl)(hy:arg y = .d (ex (.int k b)):=by first | exact ao rfl | exact ah rfl)(hc:¬ER op a b:=by first | (simp only [ER,List.length_cons,List.length_nil];omega) | (simp [ER];done) | (simp [ER];omega)):Quiet P hp ⟨dd,.binOp op T x y U,ty,ps,af,gd⟩ arg (.d (ex (.bool false))):=PT hb hx hy hc
theorem MU{op:BinOp}{T U:TypeId}{x y:Operand}{k:IntKind}{a b:Int}{c:Bool}(hx:arg x = .d (ex (.int k a)):=by first | exact ao rfl | exact ah rfl)(hy:arg y = .d (ex (.int k b)):=by first | exact ao rfl | exact ah rfl)(hc:Rk op a b=some c:=by exact rfl):Quiet P hp ⟨dd,.binOp op T x y U,ty,ps,af,gd⟩ arg (.d (ex (.bool c))):=A2K hx hy hc
theorem On{x y:Operand}{U:TypeId}{a b:Nat->Int}(hx:arg x = .d (BF (BW a)):=by first | exact ao rfl | exact ah rfl)(hy:arg y = .d (BF (BW b)):=by first | exact ao rfl | exact ah rfl)(h:Nj a b=true:=by assumption):Quiet Tryz.prog hp ⟨dd,.binOp .eql 60 x y U,ty,ps,af,gd⟩ arg (.d (ex (.bool true))):=Xc hx hy h
theorem WV{x y:Operand}{U:TypeId}{a b:Nat->Int}(hx:arg x = .d (BF (BW a)):=by first | exact ao rfl | exact ah rfl)(hy:arg y = .d (BF (BW b)):=by first | exact ao rfl | exact ah rfl)(h:Nj a b=false:=by assumption):Quiet Tryz.prog hp ⟨dd,.binOp .eql 60 x y U,ty,ps,af,gd⟩ arg (.d (ex (.bool false))):=Xd hx hy h
theorem Bl{T:TypeId}{x:Operand}{a:Bool}(hx:arg x = .d (ex (.bool a)):=by first | exact ao rfl | exact ah rfl):Quiet P hp ⟨dd,.unOp .not T x,ty,ps,af,gd⟩ arg (.d (ex (.bool (!a)))):=A2D hx
theorem PJ{T:TypeId}{x:Operand}{a:Int}(hx:arg x = .d (ex (.int .i64 a)):=by first | exact ao rfl | exact ah rfl)(h1:-9223372036854775807<=a:=by omega)(h2:a<=9223372036854775807:=by omega):Quiet P hp ⟨dd,.unOp .neg T x,ty,ps,af,gd⟩ arg (.d (ex (.int .i64 (-a)))):=A2E hx h1 h2
theorem A2x{x y:Operand}{tys:Array TypeId}{k:IntKind}{a b:Int}(hx:arg x = .d (ex (.int k a)):=by first | exact ao rfl | exact ah rfl)(hy:arg y = .d (ex (.int k b)):=by first | exact ao rfl | exact ah rfl):Quiet P hp ⟨dd,.call { callee:=.builtin .max,args:=#[x,y],argTypes:=tys },ty,ps,af,gd⟩ arg (.d (ex (.int k (Max.max a b)))):=A2G hx hy
theorem Bd{x:Operand}{i:Nat}{ds:List D}{r:D}(hx:arg x = .d (CK ds):=by first | exact ao rfl | exact ah rfl)(hr:Zn i ds=some r:=by exact rfl):Quiet P hp ⟨dd,.extract x i,ty,ps,af,gd⟩ arg (.d r):=TA hx hr
theorem AE{c x y:Operand}{r:AV}(hx:arg x=r:=by first | exact ao rfl | exact ah rfl)(hc:arg c = .d (ex (.bool true)):=by first | exact ao rfl | exact ah rfl):Quiet P hp ⟨dd,.pick c x y,ty,ps,af,gd⟩ arg r:=ZK hx hc
theorem Az{c x y:Operand}{r:AV}(hy:arg y=r:=by first | exact ao rfl | exact ah rfl)(hc:arg c = .d (ex (.bool false)):=by first | exact ao rfl | exact ah rfl):Quiet P hp ⟨dd,.pick c x y,ty,ps,af,gd⟩ arg r:=ZL hy hc
theorem BD{S T:TypeId}{x:Operand}{k:IntKind}{a:Int}{d:TypeDesc}{n b n' b':Nat}{z z':Value}(hx:arg x = .d (ex (.int k a)):=by first | exact ao rfl | exact ah rfl)(hS:Tab P S d n b z:=by exact (Ad rfl))(hT:Tab P T (.int .i64) n' b' z':=by exact (Ad rfl))(h1:-9223372036854775808<=a:=by omega)(h2:a<=9223372036854775807:=by omega):Quiet P hp ⟨dd,.convert S T x,ty,ps,af,gd⟩ arg (.d (ex (.int .i64 a))):=Xe hx hS hT h1 h2
theorem Af{f:Operand}{args:List Operand}{tys:Array TypeId}{fid:FuncId}{ds:List D}{r:D}(hc:Abs P fid ds r)(hf:arg f = .d (ex (.func (.func fid) #[] #[])):=by first | exact ao rfl | exact ah rfl)(ha:ArgsLe hp arg args ds:=by repeat (first | exact ArgsLe.nil | refine ArgsLe.cons rfl (D.le.refl _) ?_ | refine ArgsLe.cons rfl DY ?_)):Quiet P hp ⟨dd,.call { callee:=.value f,args:=args.toArray,argTypes:=tys },ty,ps,af,gd⟩ arg (.d r):=Lo hf hc ha
end
section
variable {P:Program} {s0:An} {n:Nat} {ops:Array Oper} {Q:Exit->AS->Prop} {rest:List Oper} {fr:List (Nat×AV)} {hp:List Ow} {ty:TypeId} {ps:String} {af:Array Edge} {d:Nat} {op:Op} {r:AV}
theorem Wq(hq:Quiet P hp ⟨some d,op,ty,ps,af,none⟩ (AS.arg ⟨fr,hp⟩) r)(h:AWl P s0 n ops Q rest ⟨(d,r)::fr,hp⟩)(hs:Cd op=true:=by exact rfl)(hd:Nat.blt d n=true:=by exact rfl):AWl P s0 n ops Q (⟨some d,op,ty,ps,af,none⟩::rest) ⟨fr,hp⟩:=Cr hs hd ⟨r,hq,h⟩
theorem Wg{j:Nat}{b:Bool}{e:Nat}(hq:Quiet P hp ⟨some d,op,ty,ps,af,some (j,b)⟩ (AS.arg ⟨fr,hp⟩) r)(h:AWl P s0 n ops Q rest ⟨(d,r)::fr,hp⟩)(hy:(ops[j]?).bind (·.dst)=some e:=by exact rfl)(hl:CA fr e=some (.d (ex (.bool b))):=by exact rfl)(hen:Nat.blt e n=true:=by exact rfl)(hs:Cd op=true:=by exact rfl)(hd:Nat.blt d n=true:=by exact rfl):AWl P s0 n ops Q (⟨some d,op,ty,ps,af,some (j,b)⟩::rest) ⟨fr,hp⟩:=HX hy hl hen hs hd ⟨r,hq,h⟩
theorem Ws{j:Nat}{b:Bool}{u:Value}{e:Nat}(h:AWl P s0 n ops Q rest ⟨(d,.d (ex undef))::fr,hp⟩)(hy:(ops[j]?).bind (·.dst)=some e:=by exact rfl)(hl:CA fr e=some (.d (ex u)):=by exact rfl)(hne:isB u b=false:=by exact rfl)(hen:Nat.blt e n=true:=by exact rfl)(hd:Nat.blt d n=true:=by exact rfl):AWl P s0 n ops Q (⟨some d,op,ty,ps,af,some (j,b)⟩::rest) ⟨fr,hp⟩:=A2U hy hl hne hen hd h
end
section
variable {P:Program} {σ:AS} {K:List HR->Prop} {acc acc':List HR} {o:Oper} {L:List Oper} {e:List (Nat×Nat)} {es:List (List (Nat×Nat))} {r:AV}
theorem Xq(hq:Quiet P σ.hp o (MK σ acc e) r)(h:HS P σ K acc' L es)(hg:o.guard=none:=by exact rfl)(ha:Ks acc (.av r)=some acc':=by exact rfl):HS P σ K acc (o::L) (e::es):=⟨_,US hg hq,_,ha,h⟩
theorem Xg{j:Nat}{b:Bool}(hq:Quiet P σ.hp o (MK σ acc e) r)(h:HS P σ K acc' L es)(hg:o.guard=some (j,b):=by exact rfl)(hj:acc[j]? = some (.av (.d (ex (.bool b)))):=by exact rfl)(ha:Ks acc (.av r)=some acc':=by exact rfl):HS P σ K acc (o::L) (e::es):=⟨_,ZS hg hj hq,_,ha,h⟩
theorem Xs{j:Nat}{b:Bool}{u:Value}(h:HS P σ K acc' L es)(hg:o.guard=some (j,b):=by exact rfl)(hj:acc[j]? = some (.av (.d (ex u))):=by exact rfl)(hne:isB u b=false:=by exact rfl)(ha:Ks acc (.av (.d (ex undef)))=some acc':=by exact rfl):HS P σ K acc (o::L) (e::es):=⟨_,ZT hg hj hne,_,ha,h⟩
theorem Xn{T n b:Nat}{d:TypeDesc}{z:Value}(h:HS P σ K acc' L es)(hg:o.guard=none:=by exact rfl)(hop:o.op = .alloc T:=by exact rfl)(ht:Tab P T d n b z:=by exact Ad rfl)(hT:T≠108:=by decide)(h1:Gg z.cells.toList=true:=by exact rfl)(ha:Ks acc (.new T z.cells.toList)=some acc':=by exact rfl):HS P σ K acc (o::L) (e::es):=⟨_,HStep.n hg ht hop hT h1,_,ha,h⟩
end
end Go.Proofs.YtnbfnoebjjdmnaaGreat
set_option linter.unusedSimpArgs false
set_option linter.unusedVariables false
namespace Go.Proofs.YtnbfnoebjjdmnaaGreat
open Go.RowKit
section
variable {P:Program} {s0:An} {n:Nat} {ops:Array Oper} {Q:Exit->AS->Prop} {σ:AS}
theorem Yn{K:AS->Prop}(h:K σ):AThen K Q .normal σ:=Hd h
theorem Y0{K:AS->Prop}(h:K σ):AWl P s0 n ops (AThen K Q) [] σ:=AWl.nil (Hd h)
theorem Y1{y:Code}{i:Nat}{l:List Oper}(h:AWl P s0 n l.toArray (AThen (AWp P s0 n y Q) Q) l σ):AWp P s0 n (.seq (.region i l.toArray false) y) Q σ:=Aa (AWp.region h)
theorem Ys{K:AS->Prop}(h:K σ):AWp P s0 n .skip (AThen K Q) σ:=Bw (Hd h)
end
theorem Yf{P:Program}{fn:Func}{r:D}{σ:AS}{t:Nat}{av:AV}(hr:fn.results=#[.tmp t]:=by exact rfl)(h:CA σ.fr t=some av:=by exact rfl)(hx:Ew σ.hp av=some r:=by exact rfl):Fin P fn r .ret σ:=Bf (by rw [hr];exact Rets.of1 (ResV.tmp h hx) (D.le.refl _))
theorem Ab {P : Program} {f : FuncId} {fn : Func} {c : Code} {ds : List D} {r : D} (hf : P.funcs[f]? = some fn) (h : ∀ s0, AWp P s0 fn.ntmps c (Fin P fn r) ⟨params 0 ds, []⟩) (hb : fn.body = some c := by exact rfl) (h1 : (fn.name == "runtime.NumGoroutine") = false := by kernel_rfl) (h2 : fn.body.isNone = false := by kernel_rfl) (hn : Nat.ble ds.length fn.ntmps = true := by exact rfl) : Abs P f ds r := Abs.intro hf hb (AG hf h1 h2) hn h
section
variable {P:Program} {s0:An} {n:Nat} {ops:Array Oper} {Q:Exit->AS->Prop} {fr:List (Nat×AV)} {hp hp':List Ow} {rest:List Oper} {ty:TypeId} {ps:String} {af:Array Edge} {d:Nat} {x:Operand} {r:AV}
theorem Wm(h:AWl P s0 n ops Q rest ⟨(d,r)::fr,hp⟩)(hx:AS.arg ⟨fr,hp⟩ x=r:=by exact ao rfl)(hd:Nat.blt d n=true:=by exact rfl):AWl P s0 n ops Q (⟨some d,.move x,ty,ps,af,none⟩::rest) ⟨fr,hp⟩:=Wq (GY hx) h rfl hd
theorem Wa(h:AWl P s0 n ops Q rest ⟨(d,r)::fr,hp⟩)(hx:AS.arg ⟨fr,hp⟩ x=r:=by exact ao rfl)(hd:Nat.blt d n=true:=by exact rfl):AWl P s0 n ops Q (⟨some d,.assign x,ty,ps,af,none⟩::rest) ⟨fr,hp⟩:=Wq (Fo hx) h rfl hd
theorem Ct{y z:Code}(h:AWp P s0 n y Q ⟨fr,hp⟩)(hx:AS.arg ⟨fr,hp⟩ x = .d (ex (.bool true)):=by exact ao rfl):AWp P s0 n (.cond x y z) Q ⟨fr,hp⟩:=OA hx h
theorem Cf{y z:Code}(h:AWp P s0 n z Q ⟨fr,hp⟩)(hx:AS.arg ⟨fr,hp⟩ x = .d (ex (.bool false)):=by exact ao rfl):AWp P s0 n (.cond x y z) Q ⟨fr,hp⟩:=OC hx h
theorem Sf{T T0:TypeId}{t:TypeDesc}{b id m:Nat}{z:Value}{y:Operand}{cells:List AV}{ds:List D}(h:AWl Tryz.prog s0 n ops Q rest ⟨fr,hp'⟩)(hx:AS.arg ⟨fr,hp⟩ x = .ptr id 0:=by exact ao rfl)(hy:AS.arg ⟨fr,hp⟩ y = .d (BF ds):=by exact ao rfl)(hh:hp[id]? = some (.var T0 cells):=by exact rfl)(ht:Tab Tryz.prog T t m b z:=by exact Ad rfl)(hm:ds.length=m:=by exact rfl)(hoff:cells.length=m:=by exact rfl)(hs:DI hp id (.var T0 (ds.map .d))=some hp':=by exact rfl):AWl Tryz.prog s0 n ops Q (⟨none,.store T x y,ty,ps,af,none⟩::rest) ⟨fr,hp⟩:=A1s hx hy hh ht hm hoff hs h
theorem Al{T:TypeId}{d:TypeDesc}{m b k t:Nat}{z:Value}{c:List D}(h:AWl Tryz.prog s0 n ops Q rest ⟨(t,.ptr k 0)::fr,hp'⟩)(ht:Tab Tryz.prog T d m b z:=by exact Ad rfl)(hT:Nat.beq T 108=false:=by exact rfl)(h1:Gg z.cells.toList=true:=by exact rfl)(hd:Nat.blt t n=true:=by exact rfl)(hc:exO z.cells.toList=some c:=by exact rfl)(hk:Gz hp=some k:=by exact rfl)(hs:Eo hp (.var T (c.map .d))=some hp':=by exact rfl):AWl Tryz.prog s0 n ops Q (⟨some t,.alloc T,ty,ps,af,none⟩::rest) ⟨fr,hp⟩:=A2W ht hT h1 hd hc hk hs h
theorem Bx{T:TypeId}{ds:List D}{k t:Nat}(h:AWl P s0 n ops Q rest ⟨(t,.ptr k 0)::fr,hp'⟩)(hx:AS.arg ⟨fr,hp⟩ x = .d (BF ds):=by exact ao rfl)(hT:Nat.beq T 108=false:=by exact rfl)(hd:Nat.blt t n=true:=by exact rfl)(hk:Gz hp=some k:=by exact rfl)(hs:Eo hp (.var T (ds.map .d))=some hp':=by exact rfl):AWl P s0 n ops Q (⟨some t,.box T x,ty,ps,af,none⟩::rest) ⟨fr,hp⟩:=A2V hx hT hd hk hs h
theorem Ap{x y:Operand}{t T T2 sz bytes id m b e:Nat}{z z':Value}{d:TypeDesc}{rows r2:List (List D)}{fr':List (Nat×AV)}(h:AWl Tryz.prog s0 n ops Q rest ⟨(e,.own id)::fr',hp'⟩)(hx:AS.arg ⟨fr,hp⟩ x = .own id:=by exact ao rfl)(hy:Ew hp (AS.arg ⟨fr,hp⟩ y)=some (slD T2 sz r2):=by exact rfl)(hh:hp[id]? = some (.row T sz rows):=by exact rfl)(ht:Tab Tryz.prog t (.slice T) m b z':=by exact Ad rfl)(hT:Tab Tryz.prog T d sz bytes z:=by exact Ad rfl)(hzs:z.cells.size=sz:=by exact rfl)(hd:Nat.blt e n=true:=by exact rfl)(hbytes:(rows.length+r2.length)*bytes<=140737488355328:=by simp;omega)(h63:rows.length+r2.length<=4611686018427387904:=by simp;omega)(hf:DW id (slD T sz rows) fr=some fr':=by exact rfl)(hpl:PlainHp id hp:=by repeat (first | exact PlainHp.nil | refine PlainHp.var ?_ | refine CW ?_ | refine PlainHp.dead ?_ | refine PlainHp.obj ?_ | refine PlainHp.pin rfl ?_ | refine CE rfl ?_))(hs:DI hp id (.row T sz (rows++r2))=some hp':=by exact rfl):AWl Tryz.prog s0 n ops Q (⟨some e,.call { callee:=.builtin .append,args:=#[x,y],argTypes:=#[t,t] },ty,ps,af,none⟩::rest) ⟨fr,hp⟩:=Qc hx hy hh ht hT hzs hd hbytes h63 hf hpl hs h
end
section
variable {hp:List Ow} {m T z:Nat} {l l':List Ow}
theorem Yr{r:List (List D)}(h:HpLe hp m l l'):HpLe hp m (.row T z r::l) (.row T z r::l'):=HpLe.cons (Cg rfl) h
theorem Yv{c:List D}(h:HpLe hp m l l'):HpLe hp m (.var T (c.map .d)::l) (.var T (c.map .d)::l'):=HpLe.cons (GI rfl) h
theorem Yd{t:Nat}{x:D}{f r:List (Nat×AV)}(h:FrLe hp m f r)(hk:CA f t=some (.d x):=by exact rfl):FrLe hp m f ((t,.d x)::r):=FrLe.cons hk (AVle.d rfl) h
theorem Yp{t i o:Nat}{f r:List (Nat×AV)}(h:FrLe hp m f r)(hk:CA f t=some (.ptr i o):=by exact rfl)(hi:Nat.blt i m=true:=by exact rfl):FrLe hp m f ((t,.ptr i o)::r):=FrLe.cons hk (AVle.ptr hi) h
end
theorem Po{hp:List Ow}{av:AV}{y:D}(h:Ew hp av=some y)(h1:One hp av:=by first | exact Ij rfl | exact One.sl | exact MY):PartOk hp av [y]:=PartOk.one h h1
theorem Dr{P:Program}{s0:An}{n:Nat}{Q:Exit->AS->Prop}{fr:List (Nat×AV)}{hp:List Ow}{id:Nat}{L:List Oper}(es:List (List (Nat×Nat)))(bs:List (List Nat))(h:HS P ⟨fr,hp⟩ (λrs=>∃τ,Px fr hp es.length L rs=some τ/\AWl P s0 n L.toArray Q (L.drop es.length) τ) [] L es)(hm:P.follows .mixedOrders=true:=by kernel_rfl)(hlen:(es.length==bs.length&&Nat.ble es.length L.length)=true:=by exact rfl)(hok:CG L (DU 0 es bs)=true:=by kernel_rfl)(hd:EO L es.length n=true:=by kernel_rfl)(hlt:JA 0 L es=true:=by kernel_rfl):AWp P s0 n (.region id L.toArray true) Q ⟨fr,hp⟩:=Hc (RW hm) es bs hlen hok hd hlt h
theorem K4{e:Nat}{a b c d:Oper}{l l':List Oper}(h:AddE e l l'):AddE e (a::b::c::d::l) (a::b::c::d::l'):=.keep (.keep (.keep (.keep h)))
def fT(f:Rat->Rat)(t:Tm):Tm:=⟨f t.c,t.m⟩
def Gx(f:Rat->Rat)(P Q:List Tm):List Tm:=CV P (Q.map (fT f))
theorem A0K{f:Rat->Rat}{s t:Tm}{P Q:List Tm}(h:lx s.m t.m=1):Gx f (s::P) (t::Q)=s::Gx f P (t::Q):=by
 unfold Gx
 rw [List.map_cons,CV,if_pos (show 0<lx s.m (fT f t).m by show 0<lx s.m t.m;omega)]
theorem A0J{f:Rat->Rat}{s t:Tm}{P Q:List Tm}(h:lx s.m t.m = -1):Gx f (s::P) (t::Q)=fT f t::Gx f (s::P) Q:=by
 unfold Gx
 rw [List.map_cons,CV,if_neg (show ¬0<lx s.m (fT f t).m by show ¬0<lx s.m t.m;omega),if_pos (show lx s.m (fT f t).m<0 by show lx s.m t.m<0;omega)]
theorem Uw{f:Rat->Rat}{s t:Tm}{P Q:List Tm}(h:lx s.m t.m=0):Gx f (s::P) (t::Q)=if s.c+f t.c=0 then Gx f P Q else ⟨s.c+f t.c,s.m⟩::Gx f P Q:=by
 unfold Gx
 rw [List.map_cons,CV,if_neg (show ¬0<lx s.m (fT f t).m by show ¬0<lx s.m t.m;omega),if_neg (show ¬lx s.m (fT f t).m<0 by show ¬lx s.m t.m<0;omega)]
 rfl
theorem QP{f:Rat->Rat}{P Q:List Tm}(h:P=[]\/Q=[]):Gx f P Q=P++Q.map (fT f):=by
 rcases h with rfl | rfl
 .simp [Gx,CV]
 .simp [Gx,Pc]
theorem VJ(P Q:List Tm)(fid:FuncId)(f:Rat->Rat)(N M:Nat)(hP:PSz P N)(hQ:PSz Q M)(hNM:N+M+1<=4398046511104)(hfs:∀q,RSz q M->RSz (f q) M)(hn:P.length+Q.length<=100000)
  (hf:∀q,RSz q M->Abs Tryz.prog fid [BF (Bz q)] (BF (Bz (f q)))) :
  Abs Tryz.prog 82 [Bp P,Bp Q,ex (.func (.func fid) #[] #[])] (Bp (Gx f P Q)):=by
 refine Ab Tryz.func82 λs0=>?_
 rw [Tryz.ntmps82]
 refine Y1<|Wa<|Y0<|Y1<|Wm ?_;refine Wq AN ?_;refine Wm ?_;refine Wq AN ?_;refine Wq EU ?_;refine UW (ao rfl) (ao rfl) (Ad rfl) (Ad rfl) (by omega) (by omega) rfl rfl rfl rfl rfl rfl ?_;refine Wa<|Y0<|Aa<|AWp.block ?_
 refine AQ (λm σ=>∃P' Q' R,R++Gx f P' Q'=Gx f P Q/\PSz P' N/\PSz Q' M/\R.length+P'.length+Q'.length<=100000/\m=P'.length+Q'.length/\σ=⟨[(0,.d (Bp P')),(1,.d (Bp Q')),(2,.d (ex (.func (.func fid) #[] #[]))),(7,.own 0)],[.row 81 12 (R.map Ix)]⟩) ?le ⟨P,Q,[],rfl,hP,hQ,by simpa using hn,rfl,rfl⟩ ?round
 case le=>exact Ak (by exact Yd<|Yd<|Yd<|FrLe.cons rfl (AVle.own rfl)<|FrLe.nil) (by exact Yr<|HpLe.nil)
 case round=>
  rintro m _ ⟨P',Q',R,heq,hP',hQ',hl,rfl,rfl⟩
  rcases (show (0<P'.length/\0<Q'.length)\/P'.length=0\/(0<P'.length/\Q'.length=0) by omega) with ⟨h1,h2⟩ | h1 | ⟨h1,h2⟩
  .obtain ⟨s, P', rfl⟩:∃s P1, P'=s::P1:=by cases P' with | nil=>simp at h1 | cons s P1=>exact ⟨s, P1, rfl⟩
   obtain ⟨t,Q',rfl⟩:∃t Q1,Q'=t::Q1:=by cases Q' with | nil=>simp at h2 | cons t Q1=>exact ⟨t,Q1,rfl⟩
   simp only [List.length_cons] at hl
   have hs:=hP' s (by simp)
   have ht:=hQ' t (by simp)
   have hP1:PSz P' N:=λu hu=>hP' u (by simp [hu])
   have hQ1:PSz Q' M:=λu hu=>hQ' u (by simp [hu])
   refine Aa<|Y1<|Wm ?_;refine Wq AN ?_;refine Wq Ai ?_;refine Wm ?_;refine Wg Ae ?_;refine Wg AN ?_;refine Wg Ai ?_;refine Wq AE ?_;refine Y0<|Ct<|Ys<|AWp.block<|Aa ?_
   refine Dr [[],[(25,0)],[(26,1)],[(27,2)],[],[(29,4)],[(30,5)],[(31,6)],[(28,3),(32,7)]] [[],[0],[0,1],[0,1,2],[],[4],[4,5],[4,5,6],[0,1,2,3,4,5,6,7]] ?_
   refine Xq Ae ?_;refine Xq El ?_;refine Xq Bc ?_;refine Xq As ?_;refine Xq Ae ?_;refine Xq El ?_;refine Xq Bc ?_;refine Xq As ?_;refine Xq (Af (YM s.m t.m)) ?_;refine ⟨_,rfl,?_⟩
   rcases JZ s.m t.m with hc | hc | hc
   .have hc':Fc s.m t.m = -1:=by rw [<-GN]; exact hc
    simp only [hc']
    refine Y0<|AWp.block<|Y1 ?_;refine Wq Aj ?_;refine Wa<|Y0<|Cf<|Y1 ?_;refine Wq Ai ?_;refine Wa<|Y0<|Ct<|Aa ?_
    refine Dr [[],[],[],[(75,2)],[(76,3)],[(77,4)],[(74,1),(78,5)],[],[(80,7)],[(81,8)],[(82,9)],[(79,6),(83,10)],[(84,11)]] [[],[],[],[2],[2,3],[2,3,4],[1,2,3,4,5],[],[7],[7,8],[7,8,9],[1,2,3,4,5,6,7,8,9,10],[1,2,3,4,5,6,7,8,9,10,11]] ?_
    refine Xq Ae ?_;refine Xq Ae ?_;refine Xq Ae ?_;refine Xq El ?_;refine Xq Bc ?_;refine Xq CP ?_;refine Xq (Af (hf t.c ht)) ?_;refine Xq Ae ?_;refine Xq El ?_;refine Xq Bc ?_;refine Xq As ?_;(refine Hq rfl ?_;refine BR (Ad rfl) rfl rfl rfl ?_;(repeat ((first | refine ⟨_,AO (ah rfl),?_⟩ | refine ⟨_,Po rfl,?_⟩);refine ⟨_,rfl,?_⟩));refine ⟨_,rfl,?_⟩;refine ⟨_,rfl,?_⟩);(refine Xq (BJ (ah rfl) (Ad rfl) (Ad rfl) rfl rfl rfl rfl rfl) ?_);refine ⟨_,rfl,?_⟩
    (refine Ap ?_);refine Wa<|Y0<|AWp.region<|Wm ?_;refine Wq GF ?_;refine Wa<|AWl.nil<|Ah<|Ah ?_
    refine ALoop.next _ ?_ ⟨s::P',Q',R++[fT f t],?_,hP',hQ1,?_,rfl,rfl⟩ ?_
    .simp only [List.length_cons];omega
    .rw [A0J hc] at heq
     rw [<-heq];simp
    .simp only [List.length_cons,List.length_append,List.length_nil];omega
    .exact Ak (by exact Yd<|Yd<|Yd<|FrLe.cons rfl (AVle.own rfl)<|FrLe.nil) (by refine HpLe.cons (Cg (Dn Ix R (fT f t))) ?_;exact HpLe.nil)
   .have hc':Fc s.m t.m=0:=by rw [<-GN]; exact hc
    simp only [hc']
    refine Y0<|AWp.block<|Y1 ?_;refine Wq Aj ?_;refine Wa<|Y0<|Cf<|Y1 ?_;refine Wq Aj ?_;refine Wa<|Y0<|Cf<|Aa<|Aa ?_
    refine Dr [[],[(34,0)],[(35,1)],[(36,2)],[],[],[(39,5)],[(40,6)],[(41,7)],[(38,4),(42,8)],[(37,3),(43,9)],[]] [[],[0],[0,1],[0,1,2],[],[],[5],[5,6],[5,6,7],[4,5,6,7,8],[0,1,2,3,4,5,6,7,8,9],[]] ?_
    refine Xq Ae ?_;refine Xq El ?_;refine Xq Bc ?_;refine Xq CP ?_;refine Xq Ae ?_;refine Xq Ae ?_;refine Xq El ?_;refine Xq Bc ?_;refine Xq CP ?_;refine Xq (Af (hf t.c ht)) ?_;refine Xq (Af (A1r s.c (f t.c) N M hs (hfs _ ht) hNM)) ?_;refine Xn ?_;refine ⟨_,rfl,?_⟩
    by_cases hz:s.c+f t.c=0
    .have hsg:(s.c+f t.c).num.sign=0:=by rw [hz]; rfl
     refine Sf ?_;refine Y0<|Y1 ?_;refine Wq Ar ?_;refine Wq (Af (BU (s.c+f t.c))) ?_;refine Wq Aj ?_;refine Y0<|Cf<|Ys ?_
     refine Dr [[],[(57,0)],[],[(59,2)],[(58,1)]] [[],[0],[],[2],[0,1]] ?_
     refine Xq Ae ?_;refine Xq GF ?_;refine Xq Ae ?_;refine Xq GF ?_;refine Xq Oo ?_;refine ⟨_,rfl,?_⟩
     refine Wa<|AWl.nil<|Ah<|Ah ?_
     refine ALoop.next _ ?_ ⟨P',Q',R,?_,hP1,hQ1,?_,rfl,rfl⟩ ?_
     .simp only [List.length_cons];omega
     .rw [Uw hc,if_pos hz] at heq
      exact heq
     .omega
     .exact Ak (by exact Yd<|Yd<|Yd<|FrLe.cons rfl (AVle.own rfl)<|FrLe.nil) (by exact Yr<|HpLe.nil)
    .have hsg:(s.c+f t.c).num.sign≠0:=by simpa using hz
     refine Sf ?_;refine Y0<|Y1 ?_;refine Wq Ar ?_;refine Wq (Af (BU (s.c+f t.c))) ?_;refine Wq Ai ?_;refine Y0<|Ct ?_
     refine Dr [[],[],[],[(50,2)],[(51,3)],[(52,4)],[(49,1),(53,5)],[(54,6)]] [[],[],[],[2],[2,3],[2,3,4],[1,2,3,4,5],[1,2,3,4,5,6]] ?_
     refine Xq Ae ?_;refine Xq Ar ?_;refine Xq Ae ?_;refine Xq El ?_;refine Xq Bc ?_;refine Xq As ?_;(refine Hq rfl ?_;refine BR (Ad rfl) rfl rfl rfl ?_;(repeat ((first | refine ⟨_,AO (ah rfl),?_⟩ | refine ⟨_,Po rfl,?_⟩);refine ⟨_,rfl,?_⟩));refine ⟨_,rfl,?_⟩;refine ⟨_,rfl,?_⟩);(refine Xq (BJ (ah rfl) (Ad rfl) (Ad rfl) rfl rfl rfl rfl rfl) ?_);refine ⟨_,rfl,?_⟩
     (refine Ap ?_);refine Wa<|Y0 ?_
     refine Dr [[],[(57,0)],[],[(59,2)],[(58,1)]] [[],[0],[],[2],[0,1]] ?_
     refine Xq Ae ?_;refine Xq GF ?_;refine Xq Ae ?_;refine Xq GF ?_;refine Xq Oo ?_;refine ⟨_,rfl,?_⟩
     refine Wa<|AWl.nil<|Ah<|Ah ?_
     refine ALoop.next _ ?_ ⟨P',Q',R++[⟨s.c+f t.c,s.m⟩],?_,hP1,hQ1,?_,rfl,rfl⟩ ?_
     .simp only [List.length_cons];omega
     .rw [Uw hc,if_neg hz] at heq
      rw [<-heq];simp
     .simp only [List.length_append,List.length_cons,List.length_nil];omega
     .exact Ak (by exact Yd<|Yd<|Yd<|FrLe.cons rfl (AVle.own rfl)<|FrLe.nil) (by exact HpLe.cons (Cg (Dn Ix R ⟨s.c+f t.c,s.m⟩))<|HpLe.nil)
   .have hc':Fc s.m t.m=1:=by rw [<-GN]; exact hc
    simp only [hc']
    refine Y0<|AWp.block<|Y1 ?_;refine Wq Ai ?_;refine Wa<|Y0<|Ct<|Y1<|Wm<|Wm ?_;refine Wq El ?_;refine Wq As ?_;refine Wq (BJ (ao rfl) (Ad rfl) (Ad rfl) rfl rfl rfl rfl rfl) ?_;(refine Ap ?_);refine Wa<|Y0<|AWp.region<|Wm ?_;refine Wq GF ?_;refine Wa<|AWl.nil<|Ah<|Ah ?_
    refine ALoop.next _ ?_ ⟨P',t::Q',R++[s],?_,hP1,hQ',?_,rfl,rfl⟩ ?_
    .simp only [List.length_cons];omega
    .rw [A0K hc] at heq
     rw [<-heq];simp
    .simp only [List.length_cons,List.length_append,List.length_nil];omega
    .exact Ak (by exact Yd<|Yd<|Yd<|FrLe.cons rfl (AVle.own rfl)<|FrLe.nil) (by exact HpLe.cons (Cg (Dn Ix R s))<|HpLe.nil)
  .have hmn:Gx f P' Q'=P'++Q'.map (fT f):=QP (by first | exact .inl (List.eq_nil_of_length_eq_zero (by omega)) | exact .inr (List.eq_nil_of_length_eq_zero (by omega)))
   refine Aa<|Y1<|Wm ?_;refine Wq AN ?_;refine Wq Aj ?_;refine Wm ?_;refine Ws ?_;refine Ws ?_;refine Ws ?_;refine Wq Az ?_;refine Y0<|Cf<|AP<|AA<|AF<|AB<|Yn<|Y1<|Wm<|Wm ?_;(refine Ap ?_);refine Wa<|Y0<|Aa<|Y1<|Wm ?_;refine Wq AN ?_;refine Wm<|Y0<|AWp.block ?_
   refine AQ (λm σ=>∃k,k<=Q'.length/\m=Q'.length-k/\σ=⟨[(2,.d (ex (.func (.func fid) #[] #[]))),(7,.own 0),(92,.d (Bp Q')),(93,.d (ex (.int .i64 (Q'.length:Nat)))),(94,.d (ex (.int .i64 (k:Nat))))],[.row 81 12 ((R++P'++(Q'.take k).map (fT f)).map Ix)]⟩) ?le ⟨0,by omega,rfl,rfl⟩ ?round
   case le=>exact Ak (by repeat (first | exact FrLe.nil | refine Yd ?_ | refine FrLe.cons rfl (AVle.own rfl) ?_)) (HpLe.cons (Cg (by simp)) HpLe.nil)
   case round=>
    rintro m _ ⟨k,hk,rfl,rfl⟩
    by_cases hlt:k<Q'.length
    .have ht:=hQ' _ (CY hlt)
     have htk:=Ft hlt
     apply Y1;refine Wq Ai ?_;refine Y0<|Aa<|Ct<|Ys<|Aa<|AWp.block<|Y1 ?_;refine Wq AC ?_;refine Wq As ?_;refine Al ?_;refine Sf ?_;apply Y0
     refine Dr [[],[],[],[(100,2)],[(99,1),(101,3)],[],[(103,5)],[(102,4),(104,6)],[(105,7)]] [[],[],[],[2],[1,2,3],[],[5],[1,2,3,4,5,6],[1,2,3,4,5,6,7]] ?_
     refine Xq Ae ?_;refine Xq Ae ?_;refine Xq Aq ?_;refine Xq Ar ?_;refine Xq (Af (hf (AZ Q' k).c ht)) ?_;refine Xq Aq ?_;refine Xq Ar ?_;(refine Hq rfl ?_;refine BR (Ad rfl) rfl rfl rfl ?_;(repeat ((first | refine ⟨_,AO (ah rfl),?_⟩ | refine ⟨_,Po rfl,?_⟩);refine ⟨_,rfl,?_⟩));refine ⟨_,rfl,?_⟩;refine ⟨_,rfl,?_⟩);(refine Xq (BJ (ah rfl) (Ad rfl) (Ad rfl) rfl rfl rfl rfl rfl) ?_);refine ⟨_,rfl,?_⟩
     (refine Ap ?_);refine Wa<|AWl.nil<|Ah<|Yn<|AWp.region ?_;refine Wq AH ?_;refine Wm<|AWl.nil ?_
     refine ALoop.next (Q'.length-(k+1)) (by omega) ⟨k+1,by omega,rfl,rfl⟩ ?_
     exact Ak (by exact Yd<|FrLe.cons rfl (AVle.own rfl)<|Yd<|Yd<|Yd<|FrLe.nil) (by (refine HpLe.cons (Cg ((Dn Ix _ (fT f (AZ Q' k))).trans (by rw [<-htk];simp))) ?_);exact HpLe.nil)
    .obtain rfl:k=Q'.length:=by omega
     apply Y1;refine Wq Aj ?_;refine Y0<|Aa<|Cf<|AP<|AA<|AF<|AB<|Yn<|Y1<|Wm<|Wa<|Y0<|At ?_
     refine Bf (Rets.one rfl rfl (Be ?_))
     rw [List.take_length,List.append_assoc,<-hmn,heq]
     rfl
  .have hmn:Gx f P' Q'=P'++Q'.map (fT f):=QP (by first | exact .inl (List.eq_nil_of_length_eq_zero (by omega)) | exact .inr (List.eq_nil_of_length_eq_zero (by omega)))
   refine Aa<|Y1<|Wm ?_;refine Wq AN ?_;refine Wq Ai ?_;refine Wm ?_;refine Wg Ae ?_;refine Wg AN ?_;refine Wg Aj ?_;refine Wq AE ?_;refine Y0<|Cf<|AP<|AA<|AF<|AB<|Yn<|Y1<|Wm<|Wm ?_;(refine Ap ?_);refine Wa<|Y0<|Aa<|Y1<|Wm ?_;refine Wq AN ?_;refine Wm<|Y0<|AWp.block ?_
   refine AQ (λm σ=>∃k,k<=Q'.length/\m=Q'.length-k/\σ=⟨[(2,.d (ex (.func (.func fid) #[] #[]))),(7,.own 0),(92,.d (Bp Q')),(93,.d (ex (.int .i64 (Q'.length:Nat)))),(94,.d (ex (.int .i64 (k:Nat))))],[.row 81 12 ((R++P'++(Q'.take k).map (fT f)).map Ix)]⟩) ?le ⟨0,by omega,rfl,rfl⟩ ?round
   case le=>exact Ak (by repeat (first | exact FrLe.nil | refine Yd ?_ | refine FrLe.cons rfl (AVle.own rfl) ?_)) (HpLe.cons (Cg (by simp)) HpLe.nil)
   case round=>
    rintro m _ ⟨k,hk,rfl,rfl⟩
    by_cases hlt:k<Q'.length
    .have ht:=hQ' _ (CY hlt)
     have htk:=Ft hlt
     apply Y1;refine Wq Ai ?_;refine Y0<|Aa<|Ct<|Ys<|Aa<|AWp.block<|Y1 ?_;refine Wq AC ?_;refine Wq As ?_;refine Al ?_;refine Sf ?_;apply Y0
     refine Dr [[],[],[],[(100,2)],[(99,1),(101,3)],[],[(103,5)],[(102,4),(104,6)],[(105,7)]] [[],[],[],[2],[1,2,3],[],[5],[1,2,3,4,5,6],[1,2,3,4,5,6,7]] ?_
     refine Xq Ae ?_;refine Xq Ae ?_;refine Xq Aq ?_;refine Xq Ar ?_;refine Xq (Af (hf (AZ Q' k).c ht)) ?_;refine Xq Aq ?_;refine Xq Ar ?_;(refine Hq rfl ?_;refine BR (Ad rfl) rfl rfl rfl ?_;(repeat ((first | refine ⟨_,AO (ah rfl),?_⟩ | refine ⟨_,Po rfl,?_⟩);refine ⟨_,rfl,?_⟩));refine ⟨_,rfl,?_⟩;refine ⟨_,rfl,?_⟩);(refine Xq (BJ (ah rfl) (Ad rfl) (Ad rfl) rfl rfl rfl rfl rfl) ?_);refine ⟨_,rfl,?_⟩
     (refine Ap ?_);refine Wa<|AWl.nil<|Ah<|Yn<|AWp.region ?_;refine Wq AH ?_;refine Wm<|AWl.nil ?_
     refine ALoop.next (Q'.length-(k+1)) (by omega) ⟨k+1,by omega,rfl,rfl⟩ ?_
     exact Ak (by exact Yd<|FrLe.cons rfl (AVle.own rfl)<|Yd<|Yd<|Yd<|FrLe.nil) (by (refine HpLe.cons (Cg ((Dn Ix _ (fT f (AZ Q' k))).trans (by rw [<-htk];simp))) ?_);exact HpLe.nil)
    .obtain rfl:k=Q'.length:=by omega
     apply Y1;refine Wq Aj ?_;refine Y0<|Aa<|Cf<|AP<|AA<|AF<|AB<|Yn<|Y1<|Wm<|Wa<|Y0<|At ?_
     refine Bf (Rets.one rfl rfl (Be ?_))
     rw [List.take_length,List.append_assoc,<-hmn,heq]
     rfl
theorem ZZ(q:Rat):Abs Tryz.prog 83 [BF (Bz q)] (BF (Bz q)):=by
 refine Ab Tryz.func83 λs0=>?_
 rw [Tryz.ntmps83]
 apply Y1;refine Bx ?_;refine Al ?_;refine Y0<|Y1 ?_;refine Wq Ar ?_;refine Sf ?_;refine Y0<|At ?_
 exact Bf (Rets.of1 (ResV.cell rfl rfl (Ad rfl) rfl rfl rfl) (D.le.refl _))
theorem ZQ(P Q:List Tm)(N M:Nat)(hP:PSz P N)(hQ:PSz Q M)(hNM:N+M+1<=4398046511104)(hn:P.length+Q.length<=100000):Abs Tryz.prog 49 [Bp P,Bp Q] (Bp (CV P Q)):=by
 have he:Gx (λq=>q) P Q=CV P Q:=by
  unfold Gx
  have:Q.map (fT λq=>q)=Q:=List.map_id Q
  rw [this]
 refine Ab Tryz.func49 λs0=>?_
 rw [Tryz.ntmps49]
 refine Y1<|Wa<|Y0<|Y1<|Wm<|Wm ?_;refine Wq (Af (VJ P Q 83 (λq=>q) N M hP hQ hNM (λ_ h=>h) hn (λq _=>ZZ q))) ?_;refine Wa<|Y0<|At ?_
 exact Bf (Rets.of1 (ResV.tmp rfl rfl) (Dq he))
def Dm(c:Rat):List Tm:=if c=0 then [] else [⟨c,λ_=>0⟩]
def Gm(i:Nat):Nat->Int:=Su (λ_=>0) i 1
theorem RQ(c:Rat)(m:Nat->Int)(P:List Tm)(hc:c=0):Abs Tryz.prog 48 [BF (Bz c),BF (BW m),Bp P] (CK [Bp [],ex (.int .i64 0)]):=by
 have hs:=CR.2 hc
 refine Ab Tryz.func48 λs0=>?_
 rw [Tryz.ntmps48]
 apply Y1;refine Bx ?_;refine Bx ?_;refine Wa<|Wa<|Y0<|Aa<|Y1 ?_;refine Wq Ar ?_;refine Wq (Af (BU c)) ?_;refine Wq Ai ?_;refine Y0<|Ct<|Y1<|Wa<|Wa<|Y0<|At<|AL ?_
 exact Bf (BV (ResV.tmp rfl rfl) (ResV.tmp rfl rfl) (BM (Fp) (D.le.refl _)))
theorem TD(c:Rat)(m:Nat->Int)(P:List Tm)(N M:Nat)(hc:c≠0)(hcs:RSz c N)(hm:In8 m 0 65535)(hP:PSz P M)(hPi:PIn P 0 65535)(hmP:∀t∈P,In8 (Ba m t.m) 0 65535)(hn:P.length<=100000)(hNM:N+M<=4398046511104):Abs Tryz.prog 48 [BF (Bz c),BF (BW m),Bp P] (CK [Bp (Nr c m P),ex (.int .i64 0)]):=by
 have hs:c.num.sign≠0:=λe=>hc (CR.1 e)
 refine Ab Tryz.func48 λs0=>?_
 rw [Tryz.ntmps48]
 apply Y1;refine Bx ?_;refine Bx ?_;refine Wa<|Wa<|Y0<|Aa<|Y1 ?_;refine Wq Ar ?_;refine Wq (Af (BU c)) ?_;refine Wq Aj ?_;refine Y0<|Cf<|Ys<|Y1<|Wm ?_;refine Wq AN ?_;refine UW (ao rfl) (ao rfl) (Ad rfl) (Ad rfl) (by omega) (by omega) rfl rfl rfl rfl rfl rfl ?_;refine Wa<|Y0<|Aa<|Y1<|Wm ?_;refine Wq AN ?_;refine Wm<|Y0<|AWp.block ?_
 refine AQ (λmz σ=>∃k,k<=P.length/\mz=P.length-k/\σ=⟨[(3,.ptr 0 0),(4,.ptr 1 0),(7,.d (ex (.int .i64 0))),(8,.own 2),(19,.d (Bp P)),(20,.d (ex (.int .i64 (P.length:Nat)))),(21,.d (ex (.int .i64 (k:Nat))))],[.var 42 ((Bz c).map .d),.var 60 ((BW m).map .d),.row 81 12 ((Nr c m (P.take k)).map Ix)]⟩) ?le ⟨0,by omega,rfl,rfl⟩ ?round
 case le=>exact Ak (by exact Yp<|Yp<|Yd<|FrLe.cons rfl (AVle.own rfl)<|Yd<|Yd<|Yd<|FrLe.nil) (by exact Yv<|Yv<|Yr<|HpLe.nil)
 case round=>
  rintro mz _ ⟨k,hk,rfl,rfl⟩
  by_cases hlt:k<P.length
  .have ht:=CY hlt
   have htk:=Ft hlt
   apply Y1;refine Wq Ai ?_;refine Y0<|Aa<|Ct<|Ys<|Aa<|AWp.block<|Y1 ?_;refine Wq AC ?_;refine Wq As ?_;refine Al ?_;refine Sf ?_;refine Y0<|Y1 ?_;refine Wq Ar ?_;refine Wq Aq ?_;refine Wq Ar ?_;refine Wq (Af (YK m (AZ P k).m hm (hPi _ ht) (hmP _ ht))) ?_;refine Wm ?_;refine Wq Bd ?_;refine Wq Bd ?_;refine Al ?_;refine Sf ?_;refine Wa<|Y0<|Aa<|Y1<|Wm ?_;refine Wq Aj ?_;refine Y0<|Cf<|Ys ?_
   refine Dr [[],[],[],[(37,2)],[(36,1),(38,3)],[],[(39,4),(40,5)],[(41,6)]] [[],[],[],[2],[1,2,3],[],[1,2,3,4,5],[1,2,3,4,5,6]] ?_
   refine Xq Ae ?_;refine Xq Ar ?_;refine Xq Aq ?_;refine Xq Ar ?_;refine Xq (Af (UR c (AZ P k).c N M hcs (hP _ ht) hNM)) ?_;refine Xq Ar ?_;(refine Hq rfl ?_;refine BR (Ad rfl) rfl rfl rfl ?_;(repeat ((first | refine ⟨_,AO (ah rfl),?_⟩ | refine ⟨_,Po rfl,?_⟩);refine ⟨_,rfl,?_⟩));refine ⟨_,rfl,?_⟩;refine ⟨_,rfl,?_⟩);(refine Xq (BJ (ah rfl) (Ad rfl) (Ad rfl) rfl rfl rfl rfl rfl) ?_);refine ⟨_,rfl,?_⟩
   (refine Ap ?_);refine Wa<|AWl.nil<|Ah<|Yn<|AWp.region ?_;refine Wq AH ?_;refine Wm<|AWl.nil ?_
   refine ALoop.next (P.length-(k+1)) (by omega) ⟨k+1,by omega,rfl,rfl⟩ ?_
   exact Ak (by exact Yp<|Yp<|Yd<|FrLe.cons rfl (AVle.own rfl)<|Yd<|Yd<|Yd<|FrLe.nil) (by apply Yv;apply Yv;(refine HpLe.cons (Cg ((Dn Ix _ ⟨c*(AZ P k).c,Ba m (AZ P k).m⟩).trans (by rw [<-htk];simp [Nr]))) ?_);exact HpLe.nil)
  .obtain rfl:k=P.length:=by omega
   apply Y1;refine Wq Aj ?_;refine Y0<|Aa<|Cf<|AP<|AA<|AF<|AB<|Yn<|Y1<|Wm<|Wa<|Wa<|Y0<|At ?_
   exact Bf (BV (ResV.tmp rfl rfl) (ResV.tmp rfl rfl) (BM (Be (by rw [List.take_length];rfl)) (D.le.refl _)))
def EW(b:Bool)(l:List Nat):Bool:=if l.length=0 then !b else (((l.getD (l.length-1) 0:Nat):Int) != 0)
theorem Mf(b:Bool)(l:List Nat)(hn:l.length<=1000000000):Abs Tryz.prog 94 [BF [ex (.bool b),wD l]] (ex (.bool (EW b l))):=by
 refine Ab Tryz.func94 λs0=>?_
 rw [Tryz.ntmps94]
 apply Y1;refine Bx ?_;refine Wa<|Y0<|Y1 ?_;refine Wq Aq ?_;refine Wq AI ?_;refine Wq UM ?_;refine Wa<|Y0<|Aa<|Y1<|Wm ?_;refine Wq MU ?_;apply Y0
 by_cases h0:l.length=0
 .refine KP (ao rfl) (decide_eq_true (by omega)) ?_; refine Aa<|AWp.region ?_; refine Wq Aq ?_; refine Wq AI ?_; refine Wq Bl ?_; refine Wa<|AWl.nil<|Yn<|At<|AL ?_
  exact Bf (Rets.of1 (ResV.tmp rfl rfl) (Be (by rw [EW,if_pos h0])))
 .refine KQ (ao rfl) (decide_eq_false (by omega)) ?_; refine Bw<|Yn<|Aa<|AWp.region ?_; refine Wq Aq ?_; refine Wq AI ?_; refine Wm ?_; refine Wq Ln ?_; refine Wq Om ?_; refine Wq BG ?_; refine Wq MU ?_; refine Wa<|AWl.nil<|Yn<|At ?_
  exact Bf (Rets.of1 (ResV.tmp rfl rfl) (Be (by rw [EW,if_neg h0])))
theorem KL(b:Bool)(l:List Nat)(hn:l.length<=1000000000):Abs Tryz.prog 37 [BF [ex (.bool b),wD l]] (ex (.bool (EW b l))):=by
 refine Ab Tryz.func37 λs0=>?_
 rw [Tryz.ntmps37]
 apply Y1;refine Bx ?_;refine Wa<|Y0<|Y1 ?_;refine Wq Aq ?_;refine Wq AI ?_;refine Wq UM ?_;refine Wa<|Y0<|Aa<|Y1<|Wm ?_;refine Wq MU ?_;apply Y0
 by_cases h0:l.length=0
 .refine KP (ao rfl) (decide_eq_true (by omega)) ?_; refine Aa<|AWp.region ?_; refine Wq Aq ?_; refine Wq AI ?_; refine Wq Bl ?_; refine Wa<|AWl.nil<|Yn<|At<|AL ?_
  exact Bf (Rets.of1 (ResV.tmp rfl rfl) (Be (by rw [EW,if_pos h0])))
 .refine KQ (ao rfl) (decide_eq_false (by omega)) ?_; refine Bw<|Yn<|Aa<|AWp.region ?_; refine Wq Aq ?_; refine Wq AI ?_; refine Wm ?_; refine Wq Ln ?_; refine Wq Om ?_; refine Wq BG ?_; refine Wq MU ?_; refine Wa<|AWl.nil<|Yn<|At ?_
  exact Bf (Rets.of1 (ResV.tmp rfl rfl) (Be (by rw [EW,if_neg h0])))
theorem Lu:∀{l:List Nat},l≠[]->l.getD (l.length-1) 0≠0->CL l=l
 | [],h,_=>absurd rfl h
 | [x],_,h=>by
  have h:x≠0:=h
  simp [CL,h]
 | x::y::l,_,h=>by
  have h':(y::l).getD ((y::l).length-1) 0≠0:=by
   have e:(x::y::l).getD ((x::y::l).length-1) 0=(y::l).getD ((y::l).length-1) 0:=by simp
   rwa [e] at h
  have ih:=Lu (l:=y::l) (by simp) h'
  rw [CL,ih]
theorem Ig{b:Bool}{l:List Nat}(hs:Bn l)(h:EW b l=true):∃z:Int,b=decide (z<0)/\l=Am z.natAbs:=by
 unfold EW at h
 split at h
 .rename_i h0
  obtain rfl:=List.eq_nil_of_length_eq_zero h0
  exact ⟨0,by simpa using h,by simp [Bo]⟩
 .rename_i h0
  have h1:l≠[]:=λe=>h0 (by rw [e];rfl)
  have h2:l.getD (l.length-1) 0≠0:=λe=>by rw [e] at h;simp at h
  have h3:l=Am (val l):=by rw [<-AM hs,Lu h1 h2]
  have h4:val l≠0:=λe=>by rw [e,Bo] at h3;exact h1 h3
  cases b with
  | true=>exact ⟨-(val l:Int),by simp;omega,by simpa using h3⟩
  | false=>exact ⟨(val l:Int),by simp,by simpa using h3⟩
theorem NU(z:Int):EW (decide (z<0)) (Am z.natAbs)=true:=by
 unfold EW
 split
 .rename_i h
  have:=AT.1 h
  have:z=0:=by omega
  subst this
  rfl
 .rename_i h
  have hd:(Am z.natAbs).getD ((Am z.natAbs).length-1) 0≠0:=by
   have key:∀n,n≠0->(Am n).getD ((Am n).length-1) 0≠0:=by
    intro n
    induction n using Nat.strongRecOn with
    | _ n ih=>
     intro hn
     rw [DG hn]
     by_cases h0:n/BB=0
     .rw [h0,Bo]
      have:n%BB=n:=Nat.mod_eq_of_lt (by have:=Nat.div_eq_zero_iff.1 h0;rcases this with h | h;exact absurd h (by decide);exact h)
      simpa [this] using hn
     .have:=ih (n/BB) (Nat.div_lt_self (Nat.pos_of_ne_zero hn) (by decide)) h0
      have hne:(Am (n/BB)).length≠0:=λe=>h0 (AT.1 e)
      obtain ⟨m,hm⟩:∃m,(Am (n/BB)).length=m+1:=⟨(Am (n/BB)).length-1,by omega⟩
      rw [hm] at this
      simp only [List.length_cons,hm,Nat.add_sub_cancel,List.getD_cons_succ] at this ⊢
      exact this
   exact key _ λe=>h (AT.2 e)
  simp only [bne_iff_ne,ne_eq]
  omega
def TB(b:Bool)(l:List Nat)(b':Bool)(l':List Nat):Prop:=∃q:Rat,b=decide (q.num<0)/\l=Am q.num.natAbs/\b'=decide ((q.den:Int)<0)/\l'=Am (q.den:Int).natAbs
theorem Uy{x y:Int}(h:decide (x<0)=decide (y<0))(h':Am x.natAbs=Am y.natAbs):x=y:=by
 have h1:x.natAbs=y.natAbs:=by rw [<-Ao x.natAbs,h',Ao]
 have h2:(x<0)↔(y<0):=by simpa using h
 omega
theorem JF(x y:Int):TB (decide (x<0)) (Am x.natAbs) (decide (y<0)) (Am y.natAbs)↔0<y/\Nat.gcd x.natAbs y.natAbs=1:=by
 constructor
 .rintro ⟨q,h1,h2,h3,h4⟩
  have e1:=Uy h1 h2
  have e2:=Uy h3 h4
  subst e1;subst e2
  exact ⟨by have:=q.den_pos;omega,q.reduced⟩
 .rintro ⟨h1,h2⟩
  refine ⟨⟨x,y.natAbs,by omega,h2⟩,rfl,rfl,?_,?_⟩
  .show decide (y<0)=decide (((y.natAbs:Nat):Int)<0)
   rw [decide_eq_false (show ¬y<0 by omega),decide_eq_false (by omega)]
  .show Am y.natAbs=Am ((y.natAbs:Nat):Int).natAbs
   rfl
theorem PU{b:Bool}{l:List Nat}{b':Bool}{l':List Nat}(h:TB b l b' l'):EW b l=true/\EW b' l'=true:=by
 obtain ⟨q,rfl,rfl,rfl,rfl⟩:=h
 exact ⟨NU _,NU _⟩
def A0r(b:Bool)(l:List Nat)(b':Bool)(l':List Nat):List D:=[ex (.bool b),wD l,ex (.bool b'),wD l']
open Classical in
theorem SC(b:Bool)(l:List Nat)(b':Bool)(l':List Nat)(hs:Bn l)(hs':Bn l')(hn:l.length<=1000000000)(hn':l'.length<=1000000000):Abs Tryz.prog 69 [BF (A0r b l b' l')] (ex (.bool (decide (TB b l b' l')))):=by
 have c1:=Mf b l hn
 have c2:=Mf b' l' hn'
 cases h1:EW b l with
 | false=>
  have hq:¬TB b l b' l':=λh=>by rw [(PU h).1] at h1;cases h1
  rw [h1] at c1
  rw [decide_eq_false hq]
  refine Ab Tryz.func69 λs0=>?_
  rw [Tryz.ntmps69]
  apply Y1;refine Bx ?_;refine Wa<|Y0<|Aa<|Y1 ?_;refine Wq Aq ?_;refine Wq Ar ?_;refine Wq (Af (c1)) ?_;refine Wq Bl ?_;refine Wm ?_;refine Ws ?_;refine Ws ?_;refine Ws ?_;refine Ws ?_;refine Wq AE ?_;refine Wm ?_;refine Ws ?_;refine Ws ?_;refine Ws ?_;refine Ws ?_;refine Wq AE ?_;refine Y0<|Ct<|Y1<|Wa<|Y0<|At<|AL ?_
  exact Yf
 | true=>
  rw [h1] at c1
  cases h2:EW b' l' with
  | false=>
   have hq:¬TB b l b' l':=λh=>by rw [(PU h).2] at h2;cases h2
   rw [h2] at c2
   rw [decide_eq_false hq]
   refine Ab Tryz.func69 λs0=>?_
   rw [Tryz.ntmps69]
   apply Y1;refine Bx ?_;refine Wa<|Y0<|Aa<|Y1 ?_;refine Wq Aq ?_;refine Wq Ar ?_;refine Wq (Af (c1)) ?_;refine Wq Bl ?_;refine Wm ?_;refine Wg Aq ?_;refine Wg Ar ?_;refine Wg (Af (c2)) ?_;refine Wg Bl ?_;refine Wq Az ?_;refine Wm ?_;refine Ws ?_;refine Ws ?_;refine Ws ?_;refine Ws ?_;refine Wq AE ?_;refine Y0<|Ct<|Y1<|Wa<|Y0<|At<|AL ?_
   exact Yf
  | true=>
   rw [h2] at c2
   obtain ⟨x,rfl,rfl⟩:=Ig hs h1
   obtain ⟨y,rfl,rfl⟩:=Ig hs' h2
   by_cases hy:0<y
   .have hsg:y.sign=1:=Int.sign_eq_one_of_pos hy
    have c3:=GA y
    by_cases hy1:y=1
    .rw [decide_eq_true hy1] at c3
     rw [decide_eq_true ((JF x y).2 ⟨hy,by subst hy1;exact Nat.gcd_one_right _⟩)]
     refine Ab Tryz.func69 λs0=>?_
     rw [Tryz.ntmps69]
     apply Y1;refine Bx ?_;refine Wa<|Y0<|Aa<|Y1 ?_;refine Wq Aq ?_;refine Wq Ar ?_;refine Wq (Af (c1)) ?_;refine Wq Bl ?_;refine Wm ?_;refine Wg Aq ?_;refine Wg Ar ?_;refine Wg (Af (c2)) ?_;refine Wg Bl ?_;refine Wq Az ?_;refine Wm ?_;refine Wg Aq ?_;refine Wg Ar ?_;refine Wg (Af (Ep y)) ?_;refine Wg Aj ?_;refine Wq Az ?_;refine Y0<|Cf<|Ys<|Y1 ?_;refine Wq Aq ?_;refine Wq Ar ?_;refine Wq (Af (c3)) ?_;refine Wm ?_;refine Ws ?_;refine Ws ?_;refine Ws ?_;refine Ws ?_;refine Ws ?_;refine Ws ?_;refine Wq AE ?_;refine Wa<|Y0<|At ?_
     exact Yf
    .rw [decide_eq_false hy1] at c3
     have hg:decide (TB (decide (x<0)) (Am x.natAbs) (decide (y<0)) (Am y.natAbs))=decide (((Nat.gcd x.natAbs y.natAbs:Nat):Int)=1):=by
      refine decide_eq_decide.2 ((JF x y).trans ⟨λh=>by omega,λh=>⟨hy,by omega⟩⟩)
     rw [hg]
     refine Ab Tryz.func69 λs0=>?_
     rw [Tryz.ntmps69]
     apply Y1;refine Bx ?_;refine Wa<|Y0<|Aa<|Y1 ?_;refine Wq Aq ?_;refine Wq Ar ?_;refine Wq (Af (c1)) ?_;refine Wq Bl ?_;refine Wm ?_;refine Wg Aq ?_;refine Wg Ar ?_;refine Wg (Af (c2)) ?_;refine Wg Bl ?_;refine Wq Az ?_;refine Wm ?_;refine Wg Aq ?_;refine Wg Ar ?_;refine Wg (Af (Ep y)) ?_;refine Wg Aj ?_;refine Wq Az ?_;refine Y0<|Cf<|Ys<|Y1 ?_;refine Wq Aq ?_;refine Wq Ar ?_;refine Wq (Af (c3)) ?_;refine Wm ?_;refine Wg Aq ?_;refine Wg Ar ?_;refine Wg Aq ?_;refine Wg Ar ?_;refine Wg (Af (A0O x y (by omega) (by omega))) ?_;refine Wg (Af (GA (Nat.gcd x.natAbs y.natAbs:Nat))) ?_;refine Wq Az ?_;refine Wa<|Y0<|At ?_
     exact Yf
   .have hsg:y.sign<=0:=Int.sign_nonpos_iff.2 (by omega)
    rw [decide_eq_false λh=>hy ((JF x y).1 h).1]
    refine Ab Tryz.func69 λs0=>?_
    rw [Tryz.ntmps69]
    apply Y1;refine Bx ?_;refine Wa<|Y0<|Aa<|Y1 ?_;refine Wq Aq ?_;refine Wq Ar ?_;refine Wq (Af (c1)) ?_;refine Wq Bl ?_;refine Wm ?_;refine Wg Aq ?_;refine Wg Ar ?_;refine Wg (Af (c2)) ?_;refine Wg Bl ?_;refine Wq Az ?_;refine Wm ?_;refine Wg Aq ?_;refine Wg Ar ?_;refine Wg (Af (Ep y)) ?_;refine Wg Ai ?_;refine Wq Az ?_;refine Y0<|Ct<|Y1<|Wa<|Y0<|At<|AL ?_
    exact Yf
def A3z(b:Bool)(m:Nat)(b':Bool)(m':Nat):Int:=match b,b' with
 | true,true=>Df m' m
 | true,false=>-1
 | false,true=>1
 | false,false=>Df m m'
theorem WM(b b':Bool)(m m':Nat):Abs Tryz.prog 39 [BF [ex (.bool b),wD (Am m)],BF [ex (.bool b'),wD (Am m')]] (ex (.int .i64 (A3z b m b' m'))):=by
 cases b<;>cases b'
 .refine Ab Tryz.func39 λs0=>?_
  rw [Tryz.ntmps39]
  apply Y1;refine Bx ?_;refine Bx ?_;refine Wa<|Y0<|Aa<|Y1 ?_;refine Wq Aq ?_;refine Wq AI ?_;refine Wm ?_;refine Ws ?_;refine Ws ?_;refine Ws ?_;refine Wq Az ?_;refine Y0<|Cf<|Ys<|Aa<|Y1 ?_;refine Wq Aq ?_;refine Wq AI ?_;refine Wq Bl ?_;refine Wm ?_;refine Wg Aq ?_;refine Wg AI ?_;refine Wq AE ?_;refine Y0<|Cf<|Ys<|Aa<|Y1 ?_;refine Wq Aq ?_;refine Wq AI ?_;refine Y0<|Cf<|Ys<|Y1 ?_;refine Wq Aq ?_;refine Wq AI ?_;refine Wq Aq ?_;refine Wq AI ?_;refine Wq (Af (Iu m m')) ?_;refine Wa<|Y0<|At ?_
  exact Yf
 .refine Ab Tryz.func39 λs0=>?_
  rw [Tryz.ntmps39]
  apply Y1;refine Bx ?_;refine Bx ?_;refine Wa<|Y0<|Aa<|Y1 ?_;refine Wq Aq ?_;refine Wq AI ?_;refine Wm ?_;refine Ws ?_;refine Ws ?_;refine Ws ?_;refine Wq Az ?_;refine Y0<|Cf<|Ys<|Aa<|Y1 ?_;refine Wq Aq ?_;refine Wq AI ?_;refine Wq Bl ?_;refine Wm ?_;refine Wg Aq ?_;refine Wg AI ?_;refine Wq AE ?_;refine Y0<|Ct<|Y1<|Wa<|Y0<|At<|AL ?_
  exact Yf
 .refine Ab Tryz.func39 λs0=>?_
  rw [Tryz.ntmps39]
  apply Y1;refine Bx ?_;refine Bx ?_;refine Wa<|Y0<|Aa<|Y1 ?_;refine Wq Aq ?_;refine Wq AI ?_;refine Wm ?_;refine Wg Aq ?_;refine Wg AI ?_;refine Wg Bl ?_;refine Wq AE ?_;refine Y0<|Ct<|Y1<|Wa<|Y0<|At<|AL ?_
  exact Yf
 .refine Ab Tryz.func39 λs0=>?_
  rw [Tryz.ntmps39]
  apply Y1;refine Bx ?_;refine Bx ?_;refine Wa<|Y0<|Aa<|Y1 ?_;refine Wq Aq ?_;refine Wq AI ?_;refine Wm ?_;refine Wg Aq ?_;refine Wg AI ?_;refine Wg Bl ?_;refine Wq AE ?_;refine Y0<|Cf<|Ys<|Aa<|Y1 ?_;refine Wq Aq ?_;refine Wq AI ?_;refine Wq Bl ?_;refine Wm ?_;refine Ws ?_;refine Ws ?_;refine Wq Az ?_;refine Y0<|Cf<|Ys<|Aa<|Y1 ?_;refine Wq Aq ?_;refine Wq AI ?_;refine Y0<|Ct<|Y1 ?_;refine Wq Aq ?_;refine Wq AI ?_;refine Wq Aq ?_;refine Wq AI ?_;refine Wq (Af (Iu m' m)) ?_;refine Wa<|Y0<|At<|AL ?_
  exact Yf
theorem Ih(x y:Nat):Df x y=((x:Int)-y).sign:=by
 unfold Df
 rcases Nat.lt_trichotomy x y with h | h | h
 .rw [if_pos h,Int.sign_eq_neg_one_of_neg (by omega)]
 .subst h;simp
 .rw [if_neg (by omega),if_pos h,Int.sign_eq_one_of_pos (by omega)]
theorem Ww(x y:Int):A3z (decide (x<0)) x.natAbs (decide (y<0)) y.natAbs=(x-y).sign:=by
 by_cases hx:x<0<;>by_cases hy:y<0
 .rw [decide_eq_true hx,decide_eq_true hy]
  show Df _ _=_
  rw [Ih];congr 1;omega
 .rw [decide_eq_true hx,decide_eq_false hy]
  show (-1:Int)=_
  rw [Int.sign_eq_neg_one_of_neg (by omega)]
 .rw [decide_eq_false hx,decide_eq_true hy]
  show (1:Int)=_
  rw [Int.sign_eq_one_of_pos (by omega)]
 .rw [decide_eq_false hx,decide_eq_false hy]
  show Df _ _=_
  rw [Ih];congr 1;omega
theorem WN(x y:Int):Abs Tryz.prog 39 [BF (Dz x),BF (Dz y)] (ex (.int .i64 (x-y).sign)):=by
 rw [<-Ww]
 exact WM _ _ _ _
theorem YO(x y:Int):Abs Tryz.prog 97 [BF (Dz x),BF (Dz y)] (ex (.int .i64 (x-y).sign)):=by
 have hx:x.sign = -1/\x<0\/x.sign=0/\x=0\/x.sign=1/\0<x:=by
  rcases Int.lt_trichotomy x 0 with h | h | h
  .exact .inl ⟨Int.sign_eq_neg_one_of_neg h,h⟩
  .exact .inr (.inl ⟨by rw [h];rfl,h⟩)
  .exact .inr (.inr ⟨Int.sign_eq_one_of_pos h,h⟩)
 have hy:y.sign = -1/\y<0\/y.sign=0/\y=0\/y.sign=1/\0<y:=by
  rcases Int.lt_trichotomy y 0 with h | h | h
  .exact .inl ⟨Int.sign_eq_neg_one_of_neg h,h⟩
  .exact .inr (.inl ⟨by rw [h];rfl,h⟩)
  .exact .inr (.inr ⟨Int.sign_eq_one_of_pos h,h⟩)
 rcases (show x.sign<y.sign\/y.sign<x.sign\/(x.sign=y.sign/\x.sign<0)\/(x.sign=y.sign/\0<=x.sign) by omega) with h | h | h | h
 .refine Ab Tryz.func97 λs0=>?_
  rw [Tryz.ntmps97]
  apply Y1;refine Bx ?_;refine Bx ?_;refine Wa<|Y0<|Aa ?_
  refine Dr [[],[(7,0)],[],[(9,2)]] [[],[0],[],[0,1,2]] ?_
  refine Xq Ar ?_;refine Xq (Af (Ep x)) ?_;refine Xq Ar ?_;refine Xq (Af (Ep y)) ?_;refine ⟨_,rfl,?_⟩
  refine Wa<|Wa<|Y0<|Aa<|Y1<|Wm<|Wm ?_;refine Wq Ai ?_;refine Y0<|Ct<|Aa<|Y1<|Wm<|Wm ?_;refine Wq Ai ?_;refine Y0<|Ct<|Y1<|Wa<|Y0<|At<|AL<|AL ?_
  exact Bf (Rets.of1 (ResV.tmp rfl rfl) (Be (by rw [Int.sign_eq_neg_one_of_neg (show x-y<0 by omega)])))
 .refine Ab Tryz.func97 λs0=>?_
  rw [Tryz.ntmps97]
  apply Y1;refine Bx ?_;refine Bx ?_;refine Wa<|Y0<|Aa ?_
  refine Dr [[],[(7,0)],[],[(9,2)]] [[],[0],[],[0,1,2]] ?_
  refine Xq Ar ?_;refine Xq (Af (Ep x)) ?_;refine Xq Ar ?_;refine Xq (Af (Ep y)) ?_;refine ⟨_,rfl,?_⟩
  refine Wa<|Wa<|Y0<|Aa<|Y1<|Wm<|Wm ?_;refine Wq Ai ?_;refine Y0<|Ct<|Aa<|Y1<|Wm<|Wm ?_;refine Wq Aj ?_;refine Y0<|Cf<|Ys<|Y1<|Wa<|Y0<|At<|AL ?_
  exact Bf (Rets.of1 (ResV.tmp rfl rfl) (Be (by rw [Int.sign_eq_one_of_pos (show 0<x-y by omega)])))
 .refine Ab Tryz.func97 λs0=>?_
  rw [Tryz.ntmps97]
  apply Y1;refine Bx ?_;refine Bx ?_;refine Wa<|Y0<|Aa ?_
  refine Dr [[],[(7,0)],[],[(9,2)]] [[],[0],[],[0,1,2]] ?_
  refine Xq Ar ?_;refine Xq (Af (Ep x)) ?_;refine Xq Ar ?_;refine Xq (Af (Ep y)) ?_;refine ⟨_,rfl,?_⟩
  refine Wa<|Wa<|Y0<|Aa<|Y1<|Wm<|Wm ?_;refine Wq Aj ?_;refine Y0<|Cf<|Ys<|Aa<|Y1<|Wm ?_;refine Wq Ai ?_;refine Y0<|Ct<|Y1 ?_;refine Wq Aq ?_;refine Wq AI ?_;refine Wq Aq ?_;refine Wq AI ?_;refine Wq (Af (KG y.natAbs x.natAbs)) ?_;refine Wa<|Y0<|At<|AL ?_
  exact Bf (Rets.of1 (ResV.tmp rfl rfl) (Be (by rw [Ih];congr 3;omega)))
 .refine Ab Tryz.func97 λs0=>?_
  rw [Tryz.ntmps97]
  apply Y1;refine Bx ?_;refine Bx ?_;refine Wa<|Y0<|Aa ?_
  refine Dr [[],[(7,0)],[],[(9,2)]] [[],[0],[],[0,1,2]] ?_
  refine Xq Ar ?_;refine Xq (Af (Ep x)) ?_;refine Xq Ar ?_;refine Xq (Af (Ep y)) ?_;refine ⟨_,rfl,?_⟩
  refine Wa<|Wa<|Y0<|Aa<|Y1<|Wm<|Wm ?_;refine Wq Aj ?_;refine Y0<|Cf<|Ys<|Aa<|Y1<|Wm ?_;refine Wq Aj ?_;refine Y0<|Cf<|Ys<|Y1 ?_;refine Wq Aq ?_;refine Wq AI ?_;refine Wq Aq ?_;refine Wq AI ?_;refine Wq (Af (KG x.natAbs y.natAbs)) ?_;refine Wa<|Y0<|At ?_
  exact Bf (Rets.of1 (ResV.tmp rfl rfl) (Be (by rw [Ih];congr 3;omega)))
theorem Kx(x y:Int)(hx:(Am x.natAbs).length<=1000000000)(hy:(Am y.natAbs).length<=1000000000):Abs Tryz.prog 98 [slD 40 2 [Dz x,Dz y]] (BF (Dz (x*y))):=by
 have c1:=GA x
 have c2:=GA y
 have c0:=GA 1
 rw [decide_eq_true rfl] at c0
 refine Ab Tryz.func98 λs0=>?_
 rw [Tryz.ntmps98]
 apply Y1;refine Al ?_;refine Y0<|Y1 ?_;refine Wq (Af (A22 1 (by omega) (by omega))) ?_;refine Al ?_;refine Sf ?_;refine Y0<|Aa<|Y1<|Wm ?_;refine Wq A2y ?_;refine Wm<|Y0<|AWp.block ?_
 refine AQ (λmz σ=>∃(r:Int) (k:Nat),(mz=2/\r=1/\k=0\/mz=1/\r=x/\k=1\/mz=0/\r=x*y/\k=2)/\σ=⟨[(2,.ptr 0 0),(3,.ptr 1 0),(7,.d (slD 40 2 [Dz x,Dz y])),(8,.d (ex (.int .i64 2))),(9,.d (ex (.int .i64 (k:Nat))))],[.var 40 ([ex (.bool false),ex (.slice none 0 0)].map .d),.var 40 ((Dz r).map .d)]⟩) ?le ⟨1,0,.inl ⟨rfl,rfl,rfl⟩,rfl⟩ ?round
 case le=>exact Ak (by exact Yp<|Yp<|Yd<|Yd<|Yd<|FrLe.nil) (by exact Yv<|Yv<|HpLe.nil)
 case round=>
  rintro mz _ ⟨r,k,⟨rfl,rfl,rfl⟩ | ⟨rfl,rfl,rfl⟩ | ⟨rfl,rfl,rfl⟩,rfl⟩
  .by_cases h1:x=1
   .rw [decide_eq_true h1] at c1
    apply Y1;refine Wq Ai ?_;refine Y0<|Aa<|Ct<|Ys<|Aa<|AWp.block<|Y1 ?_;refine Wq GG ?_;refine Wq As ?_;refine Al ?_;refine Sf ?_;refine Y0<|AWp.block<|Y1 ?_;refine Wq Ar ?_;refine Wq (Af (c1)) ?_;refine Wa<|Y0<|Ct<|Bw<|Ah<|Ah<|Yn<|AWp.region ?_;refine Wq AH ?_;refine Wm<|AWl.nil ?_
    refine ALoop.next 1 (by omega) ⟨x,1,.inr (.inl ⟨rfl,rfl,rfl⟩),rfl⟩ ?_
    exact Ak (by exact Yp<|Yp<|Yd<|Yd<|Yd<|FrLe.nil) (by apply Yv;(refine HpLe.cons (GI (by rw [h1]<;>rfl)) ?_);exact HpLe.nil)
   .rw [decide_eq_false h1] at c1
    apply Y1;refine Wq Ai ?_;refine Y0<|Aa<|Ct<|Ys<|Aa<|AWp.block<|Y1 ?_;refine Wq GG ?_;refine Wq As ?_;refine Al ?_;refine Sf ?_;refine Y0<|AWp.block<|Y1 ?_;refine Wq Ar ?_;refine Wq (Af (c1)) ?_;refine Wa<|Y0<|Cf<|Y1 ?_;refine Wq Ar ?_;refine Wq (Af (c0)) ?_;refine Wa<|Y0<|Ct<|AWp.region ?_;refine Wq Ar ?_;refine Sf ?_;refine AWl.nil<|Ah<|Ah<|Yn<|AWp.region ?_;refine Wq AH ?_;refine Wm<|AWl.nil ?_
    refine ALoop.next 1 (by omega) ⟨x,1,.inr (.inl ⟨rfl,rfl,rfl⟩),rfl⟩ ?_
    exact Ak (by exact Yp<|Yp<|Yd<|Yd<|Yd<|FrLe.nil) (by exact Yv<|Yv<|HpLe.nil)
  .by_cases h2:y=1
   .rw [decide_eq_true h2] at c2
    apply Y1;refine Wq Ai ?_;refine Y0<|Aa<|Ct<|Ys<|Aa<|AWp.block<|Y1 ?_;refine Wq GG ?_;refine Wq As ?_;refine Al ?_;refine Sf ?_;refine Y0<|AWp.block<|Y1 ?_;refine Wq Ar ?_;refine Wq (Af (c2)) ?_;refine Wa<|Y0<|Ct<|Bw<|Ah<|Ah<|Yn<|AWp.region ?_;refine Wq AH ?_;refine Wm<|AWl.nil ?_
    refine ALoop.next 0 (by omega) ⟨r*y,2,.inr (.inr ⟨rfl,rfl,rfl⟩),rfl⟩ ?_
    exact Ak (by exact Yp<|Yp<|Yd<|Yd<|Yd<|FrLe.nil) (by apply Yv;(refine HpLe.cons (GI (by rw [h2,Int.mul_one]<;>rfl)) ?_);exact HpLe.nil)
   .rw [decide_eq_false h2] at c2
    by_cases h1:r=1
    .rw [decide_eq_true h1] at c1
     apply Y1;refine Wq Ai ?_;refine Y0<|Aa<|Ct<|Ys<|Aa<|AWp.block<|Y1 ?_;refine Wq GG ?_;refine Wq As ?_;refine Al ?_;refine Sf ?_;refine Y0<|AWp.block<|Y1 ?_;refine Wq Ar ?_;refine Wq (Af (c2)) ?_;refine Wa<|Y0<|Cf<|Y1 ?_;refine Wq Ar ?_;refine Wq (Af (c1)) ?_;refine Wa<|Y0<|Ct<|AWp.region ?_;refine Wq Ar ?_;refine Sf ?_;refine AWl.nil<|Ah<|Ah<|Yn<|AWp.region ?_;refine Wq AH ?_;refine Wm<|AWl.nil ?_
     refine ALoop.next 0 (by omega) ⟨r*y,2,.inr (.inr ⟨rfl,rfl,rfl⟩),rfl⟩ ?_
     exact Ak (by exact Yp<|Yp<|Yd<|Yd<|Yd<|FrLe.nil) (by apply Yv;(refine HpLe.cons (GI (by rw [h1,Int.one_mul]<;>rfl)) ?_);exact HpLe.nil)
    .rw [decide_eq_false h1] at c1
     apply Y1;refine Wq Ai ?_;refine Y0<|Aa<|Ct<|Ys<|Aa<|AWp.block<|Y1 ?_;refine Wq GG ?_;refine Wq As ?_;refine Al ?_;refine Sf ?_;refine Y0<|AWp.block<|Y1 ?_;refine Wq Ar ?_;refine Wq (Af (c2)) ?_;refine Wa<|Y0<|Cf<|Y1 ?_;refine Wq Ar ?_;refine Wq (Af (c1)) ?_;refine Wa<|Y0<|Cf<|AWp.region ?_;refine Wq Ar ?_;refine Wq Ar ?_;refine Wq (Af (A0H r y (by omega) (by omega))) ?_;refine Sf ?_;refine AWl.nil<|Ah<|Ah<|Yn<|AWp.region ?_;refine Wq AH ?_;refine Wm<|AWl.nil ?_
     refine ALoop.next 0 (by omega) ⟨r*y,2,.inr (.inr ⟨rfl,rfl,rfl⟩),rfl⟩ ?_
     exact Ak (by exact Yp<|Yp<|Yd<|Yd<|Yd<|FrLe.nil) (by exact Yv<|Yv<|HpLe.nil)
  .apply Y1;refine Wq Aj ?_;refine Y0<|Aa<|Cf<|AP<|AA<|AF<|AB<|Yn<|Y1 ?_;refine Wq Ar ?_;refine Sf ?_;refine Y0<|At ?_
   exact Bf (Rets.of1 (ResV.cell rfl rfl (Ad rfl) rfl rfl rfl) (D.le.refl _))
def Hj(p q:Rat):Int:=(p.num*(q.den:Int)-q.num*(p.den:Int)).sign
theorem Gr(p q:Rat)(hp:RSz p 1000000000)(hq:RSz q 1000000000):Abs Tryz.prog 70 [BF (Bz p),BF (Bz q)] (ex (.int .i64 (Hj p q))):=by
 have hdp:=p.den_pos
 have hdq:=q.den_pos
 have hx:p.num.sign = -1/\p.num<0\/p.num.sign=0/\p.num=0\/p.num.sign=1/\0<p.num:=by
  rcases Int.lt_trichotomy p.num 0 with h | h | h
  .exact .inl ⟨Int.sign_eq_neg_one_of_neg h,h⟩
  .exact .inr (.inl ⟨by rw [h];rfl,h⟩)
  .exact .inr (.inr ⟨Int.sign_eq_one_of_pos h,h⟩)
 have hy:q.num.sign = -1/\q.num<0\/q.num.sign=0/\q.num=0\/q.num.sign=1/\0<q.num:=by
  rcases Int.lt_trichotomy q.num 0 with h | h | h
  .exact .inl ⟨Int.sign_eq_neg_one_of_neg h,h⟩
  .exact .inr (.inl ⟨by rw [h];rfl,h⟩)
  .exact .inr (.inr ⟨Int.sign_eq_one_of_pos h,h⟩)
 rcases (show p.num.sign<q.num.sign\/q.num.sign<p.num.sign\/p.num.sign=q.num.sign by omega) with h | h | h
 .have hr:Hj p q = -1:=by
   refine Int.sign_eq_neg_one_of_neg ?_
   rcases (show (p.num<0/\0<=q.num)\/(p.num<=0/\0<q.num) by omega) with ⟨h1,h2⟩ | ⟨h1,h2⟩
   .have h3:p.num*(q.den:Int)<0:=Int.mul_neg_of_neg_of_pos h1 (by omega)
    have h4:0<=q.num*(p.den:Int):=Int.mul_nonneg h2 (by omega)
    omega
   .have h3:p.num*(q.den:Int)<=0:=Int.mul_nonpos_of_nonpos_of_nonneg h1 (by omega)
    have h4:0<q.num*(p.den:Int):=Int.mul_pos h2 (by omega)
    omega
  rw [hr]
  refine Ab Tryz.func70 λs0=>?_
  rw [Tryz.ntmps70]
  apply Y1;refine Bx ?_;refine Bx ?_;refine Wa<|Y0<|Aa<|Aa ?_
  refine Dr [[],[(7,0)],[],[(9,2)]] [[],[0],[],[0,1,2]] ?_
  refine Xq Ar ?_;refine Xq (Af (BU p)) ?_;refine Xq Ar ?_;refine Xq (Af (BU q)) ?_;refine ⟨_,rfl,?_⟩
  refine Wa<|Wa<|Y0<|Y1<|Wm<|Wm ?_;refine Wq Ai ?_;refine Y0<|Ct<|Aa<|Y1<|Wm<|Wm ?_;refine Wq Ai ?_;refine Y0<|Ct<|Y1<|Wa<|Y0<|At<|AL<|AL ?_
  exact Yf
 .have hr:Hj p q=1:=by
   refine Int.sign_eq_one_of_pos ?_
   rcases (show (q.num<0/\0<=p.num)\/(q.num<=0/\0<p.num) by omega) with ⟨h1,h2⟩ | ⟨h1,h2⟩
   .have h3:q.num*(p.den:Int)<0:=Int.mul_neg_of_neg_of_pos h1 (by omega)
    have h4:0<=p.num*(q.den:Int):=Int.mul_nonneg h2 (by omega)
    omega
   .have h3:q.num*(p.den:Int)<=0:=Int.mul_nonpos_of_nonpos_of_nonneg h1 (by omega)
    have h4:0<p.num*(q.den:Int):=Int.mul_pos h2 (by omega)
    omega
  rw [hr]
  refine Ab Tryz.func70 λs0=>?_
  rw [Tryz.ntmps70]
  apply Y1;refine Bx ?_;refine Bx ?_;refine Wa<|Y0<|Aa<|Aa ?_
  refine Dr [[],[(7,0)],[],[(9,2)]] [[],[0],[],[0,1,2]] ?_
  refine Xq Ar ?_;refine Xq (Af (BU p)) ?_;refine Xq Ar ?_;refine Xq (Af (BU q)) ?_;refine ⟨_,rfl,?_⟩
  refine Wa<|Wa<|Y0<|Y1<|Wm<|Wm ?_;refine Wq Ai ?_;refine Y0<|Ct<|Aa<|Y1<|Wm<|Wm ?_;refine Wq Aj ?_;refine Y0<|Cf<|Ys<|Y1<|Wa<|Y0<|At<|AL ?_
  exact Yf
 .refine Ab Tryz.func70 λs0=>?_
  rw [Tryz.ntmps70]
  apply Y1;refine Bx ?_;refine Bx ?_;refine Wa<|Y0<|Aa<|Aa ?_
  refine Dr [[],[(7,0)],[],[(9,2)]] [[],[0],[],[0,1,2]] ?_
  refine Xq Ar ?_;refine Xq (Af (BU p)) ?_;refine Xq Ar ?_;refine Xq (Af (BU q)) ?_;refine ⟨_,rfl,?_⟩
  refine Wa<|Wa<|Y0<|Y1<|Wm<|Wm ?_;refine Wq Aj ?_;refine Y0<|Cf<|Ys<|Aa ?_
  refine Dr [[],[(17,0)],[],[(19,2)],[(18,1),(20,3)],[(21,4)],[],[(23,6)],[],[(25,8)],[(24,7),(26,9)],[(27,10)],[(22,5),(28,11)]] [[],[0],[],[2],[0,1,2,3],[0,1,2,3,4],[],[6],[],[8],[6,7,8,9],[0,1,2,3,4,5,6,7,8,9,10],[0,1,2,3,4,5,6,7,8,9,10,11]] ?_
  refine Xq Aq ?_;refine Xq Ar ?_;refine Xq Aq ?_;refine Xq Ar ?_;(refine Hq rfl ?_;refine Cx (Ad rfl) (Ad rfl) rfl rfl rfl rfl rfl ?_;(repeat ((first | refine ⟨_,AO (ah rfl),?_⟩ | refine ⟨_,Po rfl,?_⟩);refine ⟨_,rfl,?_⟩));refine ⟨_,rfl,?_⟩;refine ⟨_,rfl,?_⟩);refine Xq (Af (Kx p.num q.den hp.1 hq.2)) ?_;refine Xq Aq ?_;refine Xq Ar ?_;refine Xq Aq ?_;refine Xq Ar ?_;(refine Hq rfl ?_;refine Cx (Ad rfl) (Ad rfl) rfl rfl rfl rfl rfl ?_;(repeat ((first | refine ⟨_,AO (ah rfl),?_⟩ | refine ⟨_,Po rfl,?_⟩);refine ⟨_,rfl,?_⟩));refine ⟨_,rfl,?_⟩;refine ⟨_,rfl,?_⟩);refine Xq (Af (Kx q.num p.den hq.1 hp.2)) ?_;refine Xq (Af (YO (p.num*q.den) (q.num*p.den))) ?_;refine ⟨_,rfl,?_⟩
  refine Wa<|Y0<|At ?_
  exact Yf
theorem XO{g:Nat}(h:0<g):(((g:Int)-1).sign==0)=decide (g=1):=by
 by_cases h1:g=1
 .subst h1;rfl
 .rw [decide_eq_false h1,Int.sign_eq_one_of_pos (by omega)];rfl
open Classical in
theorem KJ(b:Bool)(l:List Nat)(b':Bool)(l':List Nat)(hs:Bn l)(hs':Bn l')(hn:l.length<=1000000000)(hn':l'.length<=1000000000):Abs Tryz.prog 9 [BF (A0r b l b' l')] (ex (.bool (decide (TB b l b' l')))):=by
 have c1:=KL b l hn
 have c2:=KL b' l' hn'
 cases h1:EW b l with
 | false=>
  have hq:¬TB b l b' l':=λh=>by rw [(PU h).1] at h1;cases h1
  rw [h1] at c1
  rw [decide_eq_false hq]
  refine Ab Tryz.func9 λs0=>?_
  rw [Tryz.ntmps9]
  apply Y1;refine Bx ?_;refine Wa<|Y0<|Aa<|Y1 ?_;refine Wq Aq ?_;refine Wq Ar ?_;refine Wq (Af (c1)) ?_;refine Wq Bl ?_;refine Wm ?_;refine Ws ?_;refine Ws ?_;refine Ws ?_;refine Ws ?_;refine Wq AE ?_;refine Wm ?_;refine Ws ?_;refine Ws ?_;refine Ws ?_;refine Ws ?_;refine Wq AE ?_;refine Y0<|Ct<|Y1<|Wa<|Y0<|At<|AL ?_
  exact Yf
 | true=>
  rw [h1] at c1
  cases h2:EW b' l' with
  | false=>
   have hq:¬TB b l b' l':=λh=>by rw [(PU h).2] at h2;cases h2
   rw [h2] at c2
   rw [decide_eq_false hq]
   refine Ab Tryz.func9 λs0=>?_
   rw [Tryz.ntmps9]
   apply Y1;refine Bx ?_;refine Wa<|Y0<|Aa<|Y1 ?_;refine Wq Aq ?_;refine Wq Ar ?_;refine Wq (Af (c1)) ?_;refine Wq Bl ?_;refine Wm ?_;refine Wg Aq ?_;refine Wg Ar ?_;refine Wg (Af (c2)) ?_;refine Wg Bl ?_;refine Wq Az ?_;refine Wm ?_;refine Ws ?_;refine Ws ?_;refine Ws ?_;refine Ws ?_;refine Wq AE ?_;refine Y0<|Ct<|Y1<|Wa<|Y0<|At<|AL ?_
   exact Yf
  | true=>
   rw [h2] at c2
   obtain ⟨x,rfl,rfl⟩:=Ig hs h1
   obtain ⟨y,rfl,rfl⟩:=Ig hs' h2
   by_cases hy:0<y
   .have hsg:y.sign=1:=Int.sign_eq_one_of_pos hy
    have hg:decide (TB (decide (x<0)) (Am x.natAbs) (decide (y<0)) (Am y.natAbs))=((((Nat.gcd x.natAbs y.natAbs:Nat):Int)-1).sign==0):=by
     have hpos:0<Nat.gcd x.natAbs y.natAbs:=Nat.gcd_pos_of_pos_right _ (by omega)
     rw [XO hpos]
     exact decide_eq_decide.2 ((JF x y).trans ⟨λh=>h.2,λh=>⟨hy,h⟩⟩)
    rw [hg]
    refine Ab Tryz.func9 λs0=>?_
    rw [Tryz.ntmps9]
    apply Y1;refine Bx ?_;refine Wa<|Y0<|Aa<|Y1 ?_;refine Wq Aq ?_;refine Wq Ar ?_;refine Wq (Af (c1)) ?_;refine Wq Bl ?_;refine Wm ?_;refine Wg Aq ?_;refine Wg Ar ?_;refine Wg (Af (c2)) ?_;refine Wg Bl ?_;refine Wq Az ?_;refine Wm ?_;refine Wg Aq ?_;refine Wg Ar ?_;refine Wg (Af (Ov y)) ?_;refine Wg Aj ?_;refine Wq Az ?_;refine Y0<|Cf<|Ys<|Y1 ?_;refine Wq Aq ?_;refine Wq Ar ?_;refine Wq Aq ?_;refine Wq Ar ?_;refine Wq (Af (Zt x y (by omega) (by omega))) ?_;refine Wq (Af (Ci 1 (by omega) (by omega))) ?_;refine Wq (Af (WN (Nat.gcd x.natAbs y.natAbs:Nat) 1)) ?_;refine Wq MU ?_;refine Wa<|Y0<|At ?_
    exact Yf
   .have hsg:y.sign<=0:=Int.sign_nonpos_iff.2 (by omega)
    rw [decide_eq_false λh=>hy ((JF x y).1 h).1]
    refine Ab Tryz.func9 λs0=>?_
    rw [Tryz.ntmps9]
    apply Y1;refine Bx ?_;refine Wa<|Y0<|Aa<|Y1 ?_;refine Wq Aq ?_;refine Wq Ar ?_;refine Wq (Af (c1)) ?_;refine Wq Bl ?_;refine Wm ?_;refine Wg Aq ?_;refine Wg Ar ?_;refine Wg (Af (c2)) ?_;refine Wg Bl ?_;refine Wq Az ?_;refine Wm ?_;refine Wg Aq ?_;refine Wg Ar ?_;refine Wg (Af (Ov y)) ?_;refine Wg Ai ?_;refine Wq Az ?_;refine Y0<|Ct<|Y1<|Wa<|Y0<|At<|AL ?_
    exact Yf
structure RTm where
 b:Bool
 l:List Nat
 b':Bool
 l':List Nat
 m:Nat->Int
instance:Inhabited RTm:=⟨⟨false,[],false,[],λ_=>0⟩⟩
def rtC(r:RTm):List D:=A0r r.b r.l r.b' r.l'++BW r.m
def rtD(L:List RTm):D:=slD 81 12 (L.map rtC)
def DJ(L:List RTm)(k:Nat):RTm:=L.getD k default
def tOk(r:RTm):Prop:=TB r.b r.l r.b' r.l'/\r.l≠[]/\In8 r.m 0 65535
def IQ(L:List RTm):Prop:=∀k,k<L.length->tOk (DJ L k)/\(0<k->0<Fc (DJ L (k-1)).m (DJ L k).m)
def A3b(L:List RTm):Prop:=∀r∈L,Bn r.l/\Bn r.l'/\r.l.length<=1000000000/\r.l'.length<=1000000000
theorem XT{L:List RTm}{k:Nat}(h:k<L.length):DJ L k∈L:=by
 unfold DJ
 rw [List.getD_eq_getElem?_getD,List.getElem?_eq_getElem h]
 exact List.getElem_mem h
theorem Fh(a:Nat->Int)(h:In8 a 0 65535):Abs Tryz.prog 42 [BF (BW a)] (ex (.bool true)):=by
 refine Ab Tryz.func42 λs0=>?_
 rw [Tryz.ntmps42]
 apply Y1;refine Bx ?_;refine Wa<|Y0<|Aa<|Y1<|Wa<|Y0<|AWp.block ?_
 refine AQ (λmz σ=>∃k,k<=8/\mz=8-k/\σ=⟨[(1,.ptr 0 0),(2,.d (ex (.bool false))),(3,.d (ex (.int .i64 (k:Nat))))],[.var 60 ((BW a).map .d)]⟩) ?le ⟨0,by omega,rfl,rfl⟩ ?round
 case le=>exact Ak (by exact Yp<|Yd<|Yd<|FrLe.nil) (by exact Yv<|HpLe.nil)
 case round=>
  rintro mz _ ⟨k,hk,rfl,rfl⟩
  by_cases hlt:k<8
  .have hk':=h k hlt
   refine Aa<|Y1<|Wm ?_;refine Wq Ai ?_;refine Y0<|Ct<|Ys<|Aa<|AWp.block<|Y1<|Wm ?_;refine Wq ET ?_;refine Wq EG ?_;refine Wq Aj ?_;refine Wm ?_;refine Wg Ae ?_;refine Wg ET ?_;refine Wg EG ?_;refine Wg Aj ?_;refine Wq Az ?_;refine Y0<|Cf<|Bw<|Ah<|Yn<|AWp.region<|Wm ?_;refine Wq AH ?_;refine Wa<|AWl.nil ?_
   refine ALoop.next (8-(k+1)) (by omega) ⟨k+1,by omega,rfl,rfl⟩ ?_
   exact Ak (by exact Yp<|Yd<|Yd<|FrLe.nil) (by exact Yv<|HpLe.nil)
  .obtain rfl:k=8:=by omega
   refine Aa<|Y1<|Wm ?_;refine Wq Aj ?_;refine Y0<|Cf<|AP<|AA<|AF<|AB<|Yn<|Y1<|Wa<|Y0<|At ?_
   exact Yf
theorem PD(a:Nat->Int)(h:¬In8 a 0 65535):Abs Tryz.prog 42 [BF (BW a)] (ex (.bool false)):=by
 refine Ab Tryz.func42 λs0=>?_
 rw [Tryz.ntmps42]
 apply Y1;refine Bx ?_;refine Wa<|Y0<|Aa<|Y1<|Wa<|Y0<|AWp.block ?_
 refine AQ (λmz σ=>∃k,k<=8/\mz=8-k/\(∀j,j<k->0<=a j/\a j<=65535)/\σ=⟨[(1,.ptr 0 0),(2,.d (ex (.bool false))),(3,.d (ex (.int .i64 (k:Nat))))],[.var 60 ((BW a).map .d)]⟩) ?le ⟨0,by omega,rfl,λj hj=>absurd hj (Nat.not_lt_zero j),rfl⟩ ?round
 case le=>exact Ak (by exact Yp<|Yd<|Yd<|FrLe.nil) (by exact Yv<|HpLe.nil)
 case round=>
  rintro mz _ ⟨k,hk,rfl,hall,rfl⟩
  by_cases hlt:k<8
  .rcases (show a k<0\/(0<=a k/\65535<a k)\/(0<=a k/\a k<=65535) by omega) with h1 | ⟨h1, h2⟩ | ⟨h1, h2⟩
   .refine Aa<|Y1<|Wm ?_;refine Wq Ai ?_;refine Y0<|Ct<|Ys<|Aa<|AWp.block<|Y1<|Wm ?_;refine Wq ET ?_;refine Wq EG ?_;refine Wq Ai ?_;refine Wm ?_;refine Ws ?_;refine Ws ?_;refine Ws ?_;refine Ws ?_;refine Wq AE ?_;refine Y0<|Ct<|Y1<|Wa<|Y0<|At<|Bm<|AL<|CH<|Bm<|AL ?_
    exact Yf
   .refine Aa<|Y1<|Wm ?_;refine Wq Ai ?_;refine Y0<|Ct<|Ys<|Aa<|AWp.block<|Y1<|Wm ?_;refine Wq ET ?_;refine Wq EG ?_;refine Wq Aj ?_;refine Wm ?_;refine Wg Ae ?_;refine Wg ET ?_;refine Wg EG ?_;refine Wg Ai ?_;refine Wq Az ?_;refine Y0<|Ct<|Y1<|Wa<|Y0<|At<|Bm<|AL<|CH<|Bm<|AL ?_
    exact Yf
   .refine Aa<|Y1<|Wm ?_;refine Wq Ai ?_;refine Y0<|Ct<|Ys<|Aa<|AWp.block<|Y1<|Wm ?_;refine Wq ET ?_;refine Wq EG ?_;refine Wq Aj ?_;refine Wm ?_;refine Wg Ae ?_;refine Wg ET ?_;refine Wg EG ?_;refine Wg Aj ?_;refine Wq Az ?_;refine Y0<|Cf<|Bw<|Ah<|Yn<|AWp.region<|Wm ?_;refine Wq AH ?_;refine Wa<|AWl.nil ?_
    refine ALoop.next (8-(k+1)) (by omega) ⟨k+1,by omega,rfl,λj hj=>?_,rfl⟩ ?_
    .rcases Nat.lt_succ_iff_lt_or_eq.1 hj with h3 | rfl
     .exact hall j h3
     .exact ⟨h1,h2⟩
    .exact Ak (by exact Yp<|Yd<|Yd<|FrLe.nil) (by exact Yv<|HpLe.nil)
  .obtain rfl:k=8:=by omega
   exact absurd hall h
open Classical in
theorem RD(L:List RTm)(hz:A3b L)(hn:L.length<=1000000):Abs Tryz.prog 10 [rtD L] (ex (.bool (decide (IQ L)))):=by
 refine Ab Tryz.func10 λs0=>?_
 rw [Tryz.ntmps10]
 refine Y1<|Wa<|Y0<|Aa<|Y1<|Wa<|Y0<|AWp.block ?_
 refine AQ (λmz σ=>∃k,k<=L.length/\mz=L.length-k/\(∀j,j<k->tOk (DJ L j)/\(0<j->0<Fc (DJ L (j-1)).m (DJ L j).m))/\σ=⟨[(0,.d (rtD L)),(3,.d (ex (.int .i64 (k:Nat))))],[]⟩) ?le ⟨0,by omega,rfl,λj hj=>absurd hj (Nat.not_lt_zero j),rfl⟩ ?round
 case le=>exact Ak (by exact Yd<|Yd<|FrLe.nil) (by exact HpLe.nil)
 case round=>
  rintro mz _ ⟨k,hk,rfl,hall,rfl⟩
  by_cases hlt:k<L.length
  .obtain ⟨z1,z2,z3,z4⟩:=hz _ (XT hlt)
   have c1:=KJ (DJ L k).b (DJ L k).l (DJ L k).b' (DJ L k).l' z1 z2 z3 z4
   by_cases hq:TB (DJ L k).b (DJ L k).l (DJ L k).b' (DJ L k).l'
   .rw [decide_eq_true hq] at c1
    obtain ⟨q,q1,q2,q3,q4⟩:=id hq
    have c2:=De q
    have hcc:Bz q=A0r (DJ L k).b (DJ L k).l (DJ L k).b' (DJ L k).l':=by rw [q1,q2,q3,q4];rfl
    rw [hcc] at c2
    by_cases hz0:q=0
    .have hs:=CR.2 hz0
     have hno:¬IQ L:=λh=>(h k hlt).1.2.1 (by rw [q2,hz0];exact Bo)
     rw [decide_eq_false hno]
     refine Aa<|Y1<|Wm<|Wm ?_;refine Wq AN ?_;refine Wq Ai ?_;refine Y0<|Ct<|Ys<|Aa<|AWp.block<|Aa<|Y1<|Wm<|Wm ?_;refine Wq AC ?_;refine Wq Bc ?_;refine Wq CP ?_;refine Wq (Af (c1)) ?_;refine Wq Bl ?_;refine Wm ?_;refine Wg Ae ?_;refine Wg Ae ?_;refine Wg AC ?_;refine Wg Bc ?_;refine Wg CP ?_;refine Wg (Af (c2)) ?_;refine Wg Ai ?_;refine Wq Az ?_;refine Wm ?_;refine Ws ?_;refine Ws ?_;refine Ws ?_;refine Ws ?_;refine Ws ?_;refine Ws ?_;refine Ws ?_;refine Wq AE ?_;refine Y0<|Ct<|Y1<|Wa<|Y0<|At<|AL<|Bm<|AL<|CH<|Bm<|AL ?_
     exact Yf
    .have hs:q.num.sign≠0:=λe=>hz0 (CR.1 e)
     by_cases hm:In8 (DJ L k).m 0 65535
     .have htk:tOk (DJ L k):=⟨hq, λe=>by rw [q2] at e; have:=AT.1 (by rw [e]; rfl); exact Uj hz0 (by omega), hm⟩
      rcases Nat.eq_zero_or_pos k with h0 | h0
      .subst h0
       refine Aa<|Y1<|Wm<|Wm ?_;refine Wq AN ?_;refine Wq Ai ?_;refine Y0<|Ct<|Ys<|Aa<|AWp.block<|Aa<|Y1<|Wm<|Wm ?_;refine Wq AC ?_;refine Wq Bc ?_;refine Wq CP ?_;refine Wq (Af (c1)) ?_;refine Wq Bl ?_;refine Wm ?_;refine Wg Ae ?_;refine Wg Ae ?_;refine Wg AC ?_;refine Wg Bc ?_;refine Wg CP ?_;refine Wg (Af (c2)) ?_;refine Wg Aj ?_;refine Wq Az ?_;refine Wm ?_;refine Wg Ae ?_;refine Wg Ae ?_;refine Wg AC ?_;refine Wg Bc ?_;refine Wg As ?_;refine Wg (Af (Fh (DJ L 0).m hm)) ?_;refine Wg Bl ?_;refine Wq Az ?_;refine Y0<|Cf<|Ys<|Aa ?_
       refine Dr [[],[(35,0)],[(36,1)],[],[],[(39,4)],[(38,3),(40,5)],[(41,6)],[(42,7)],[],[],[(44,9),(45,10)],[(46,11)],[(47,12)],[(43,8),(48,13)],[(49,14)],[(37,2),(50,15)]] [[],[0],[0,1],[0,1,2],[0,1,2],[0,1,2,4],[0,1,2,3,4,5],[0,1,2,3,4,5,6],[0,1,2,3,4,5,6,7],[0,1,2],[0,1,2],[0,1,2,9,10],[0,1,2,9,10,11],[0,1,2,9,10,11,12],[0,1,2,3,4,5,6,7,8,9,10,11,12,13],[0,1,2,3,4,5,6,7,8,9,10,11,12,13,14],[0,1,2,3,4,5,6,7,8,9,10,11,12,13,14,15]] ?_
       refine Xq Ae ?_;refine Xq Aj ?_;refine Xq Ae ?_;refine Xs ?_;refine Xs ?_;refine Xs ?_;refine Xs ?_;refine Xs ?_;refine Xs ?_;refine Xs ?_;refine Xs ?_;refine Xs ?_;refine Xs ?_;refine Xs ?_;refine Xs ?_;refine Xs ?_;refine Xq Az ?_;refine ⟨_,rfl,?_⟩
       refine Y0<|Cf<|Bw<|Ah<|Yn<|AWp.region<|Wm ?_;refine Wq AH ?_;refine Wa<|AWl.nil ?_
       refine ALoop.next (L.length-1) (by omega) ⟨1,by omega,rfl,λj hj=>by obtain rfl:j=0:=(by omega);exact ⟨htk,λh=>absurd h (Nat.lt_irrefl _)⟩,rfl⟩ ?_
       exact Ak (by exact Yd<|Yd<|FrLe.nil) (by exact HpLe.nil)
      .by_cases hc:0<Fc (DJ L (k-1)).m (DJ L k).m
       .refine Aa<|Y1<|Wm<|Wm ?_;refine Wq AN ?_;refine Wq Ai ?_;refine Y0<|Ct<|Ys<|Aa<|AWp.block<|Aa<|Y1<|Wm<|Wm ?_;refine Wq AC ?_;refine Wq Bc ?_;refine Wq CP ?_;refine Wq (Af (c1)) ?_;refine Wq Bl ?_;refine Wm ?_;refine Wg Ae ?_;refine Wg Ae ?_;refine Wg AC ?_;refine Wg Bc ?_;refine Wg CP ?_;refine Wg (Af (c2)) ?_;refine Wg Aj ?_;refine Wq Az ?_;refine Wm ?_;refine Wg Ae ?_;refine Wg Ae ?_;refine Wg AC ?_;refine Wg Bc ?_;refine Wg As ?_;refine Wg (Af (Fh (DJ L k).m hm)) ?_;refine Wg Bl ?_;refine Wq Az ?_;refine Y0<|Cf<|Ys<|Aa ?_
        refine Dr [[],[(35,0)],[(36,1)],[],[],[(39,4)],[(38,3),(40,5)],[(41,6)],[(42,7)],[],[],[(44,9),(45,10)],[(46,11)],[(47,12)],[(43,8),(48,13)],[(49,14)],[(37,2),(50,15)]] [[],[0],[0,1],[0,1,2],[0,1,2],[0,1,2,4],[0,1,2,3,4,5],[0,1,2,3,4,5,6],[0,1,2,3,4,5,6,7],[0,1,2],[0,1,2],[0,1,2,9,10],[0,1,2,9,10,11],[0,1,2,9,10,11,12],[0,1,2,3,4,5,6,7,8,9,10,11,12,13],[0,1,2,3,4,5,6,7,8,9,10,11,12,13,14],[0,1,2,3,4,5,6,7,8,9,10,11,12,13,14,15]] ?_
        refine Xq Ae ?_;refine Xq Ai ?_;refine Xq Ae ?_;refine Xg Ae ?_;refine Xg Ae ?_;refine Xg Ln ?_;refine Xg AC ?_;refine Xg Bc ?_;refine Xg As ?_;refine Xg Ae ?_;refine Xg Ae ?_;refine Xg AC ?_;refine Xg Bc ?_;refine Xg As ?_;refine Xg (Af (DP (DJ L (k-1)).m (DJ L k).m)) ?_;refine Xg Aj ?_;refine Xq AE ?_;refine ⟨_,rfl,?_⟩
        refine Y0<|Cf<|Bw<|Ah<|Yn<|AWp.region<|Wm ?_;refine Wq AH ?_;refine Wa<|AWl.nil ?_
        refine ALoop.next (L.length-(k+1)) (by omega) ⟨k+1,by omega,rfl,λj hj=>?_,rfl⟩ ?_
        .rcases Nat.lt_succ_iff_lt_or_eq.1 hj with h | rfl
         .exact hall j h
         .exact ⟨htk,λ_=>hc⟩
        .exact Ak (by exact Yd<|Yd<|FrLe.nil) (by exact HpLe.nil)
       .have hno:¬IQ L:=λh=>hc ((h k hlt).2 h0)
        rw [decide_eq_false hno]
        refine Aa<|Y1<|Wm<|Wm ?_;refine Wq AN ?_;refine Wq Ai ?_;refine Y0<|Ct<|Ys<|Aa<|AWp.block<|Aa<|Y1<|Wm<|Wm ?_;refine Wq AC ?_;refine Wq Bc ?_;refine Wq CP ?_;refine Wq (Af (c1)) ?_;refine Wq Bl ?_;refine Wm ?_;refine Wg Ae ?_;refine Wg Ae ?_;refine Wg AC ?_;refine Wg Bc ?_;refine Wg CP ?_;refine Wg (Af (c2)) ?_;refine Wg Aj ?_;refine Wq Az ?_;refine Wm ?_;refine Wg Ae ?_;refine Wg Ae ?_;refine Wg AC ?_;refine Wg Bc ?_;refine Wg As ?_;refine Wg (Af (Fh (DJ L k).m hm)) ?_;refine Wg Bl ?_;refine Wq Az ?_;refine Y0<|Cf<|Ys<|Aa ?_
        refine Dr [[],[(35,0)],[(36,1)],[],[],[(39,4)],[(38,3),(40,5)],[(41,6)],[(42,7)],[],[],[(44,9),(45,10)],[(46,11)],[(47,12)],[(43,8),(48,13)],[(49,14)],[(37,2),(50,15)]] [[],[0],[0,1],[0,1,2],[0,1,2],[0,1,2,4],[0,1,2,3,4,5],[0,1,2,3,4,5,6],[0,1,2,3,4,5,6,7],[0,1,2],[0,1,2],[0,1,2,9,10],[0,1,2,9,10,11],[0,1,2,9,10,11,12],[0,1,2,3,4,5,6,7,8,9,10,11,12,13],[0,1,2,3,4,5,6,7,8,9,10,11,12,13,14],[0,1,2,3,4,5,6,7,8,9,10,11,12,13,14,15]] ?_
        refine Xq Ae ?_;refine Xq Ai ?_;refine Xq Ae ?_;refine Xg Ae ?_;refine Xg Ae ?_;refine Xg Ln ?_;refine Xg AC ?_;refine Xg Bc ?_;refine Xg As ?_;refine Xg Ae ?_;refine Xg Ae ?_;refine Xg AC ?_;refine Xg Bc ?_;refine Xg As ?_;refine Xg (Af (DP (DJ L (k-1)).m (DJ L k).m)) ?_;refine Xg Ai ?_;refine Xq AE ?_;refine ⟨_,rfl,?_⟩
        refine Y0<|Ct<|Y1<|Wa<|Y0<|At<|Bm<|AL<|CH<|Bm<|AL ?_
        exact Yf
     .have hno:¬IQ L:=λh=>hm (h k hlt).1.2.2
      rw [decide_eq_false hno]
      refine Aa<|Y1<|Wm<|Wm ?_;refine Wq AN ?_;refine Wq Ai ?_;refine Y0<|Ct<|Ys<|Aa<|AWp.block<|Aa<|Y1<|Wm<|Wm ?_;refine Wq AC ?_;refine Wq Bc ?_;refine Wq CP ?_;refine Wq (Af (c1)) ?_;refine Wq Bl ?_;refine Wm ?_;refine Wg Ae ?_;refine Wg Ae ?_;refine Wg AC ?_;refine Wg Bc ?_;refine Wg CP ?_;refine Wg (Af (c2)) ?_;refine Wg Aj ?_;refine Wq Az ?_;refine Wm ?_;refine Wg Ae ?_;refine Wg Ae ?_;refine Wg AC ?_;refine Wg Bc ?_;refine Wg As ?_;refine Wg (Af (PD (DJ L k).m hm)) ?_;refine Wg Bl ?_;refine Wq Az ?_;refine Y0<|Ct<|Y1<|Wa<|Y0<|At<|AL<|Bm<|AL<|CH<|Bm<|AL ?_
      exact Yf
   .rw [decide_eq_false hq] at c1
    have hno:¬IQ L:=λh=>hq (h k hlt).1.1
    rw [decide_eq_false hno]
    refine Aa<|Y1<|Wm<|Wm ?_;refine Wq AN ?_;refine Wq Ai ?_;refine Y0<|Ct<|Ys<|Aa<|AWp.block<|Aa<|Y1<|Wm<|Wm ?_;refine Wq AC ?_;refine Wq Bc ?_;refine Wq CP ?_;refine Wq (Af (c1)) ?_;refine Wq Bl ?_;refine Wm ?_;refine Ws ?_;refine Ws ?_;refine Ws ?_;refine Ws ?_;refine Ws ?_;refine Ws ?_;refine Ws ?_;refine Wq AE ?_;refine Wm ?_;refine Ws ?_;refine Ws ?_;refine Ws ?_;refine Ws ?_;refine Ws ?_;refine Ws ?_;refine Ws ?_;refine Wq AE ?_;refine Y0<|Ct<|Y1<|Wa<|Y0<|At<|AL<|Bm<|AL<|CH<|Bm<|AL ?_
    exact Yf
  .obtain rfl:k=L.length:=by omega
   have hyes:IQ L:=hall
   rw [decide_eq_true hyes]
   refine Aa<|Y1<|Wm<|Wm ?_;refine Wq AN ?_;refine Wq Aj ?_;refine Y0<|Cf<|AP<|AA<|AF<|AB<|Yn<|Y1<|Wa<|Y0<|At ?_
   exact Yf
def ofT(t:Tm):RTm:=⟨decide (t.c.num<0),Am t.c.num.natAbs,decide ((t.c.den:Int)<0),Am (t.c.den:Int).natAbs,t.m⟩
theorem A0x(P:List Tm):Bp P=rtD (P.map ofT):=by
 unfold Bp rtD
 rw [List.map_map]
 rfl
theorem Uf{P:List Tm}{k:Nat}(h:k<P.length):DJ (P.map ofT) k=ofT (AZ P k):=by
 unfold DJ AZ
 rw [List.getD_eq_getElem?_getD,List.getElem?_map,List.getElem?_eq_getElem h]
 simp [List.getD_eq_getElem?_getD,List.getElem?_eq_getElem h]
theorem A23(t:Tm):TB (ofT t).b (ofT t).l (ofT t).b' (ofT t).l':=⟨t.c,rfl,rfl,rfl,rfl⟩
theorem A2g{P:List Tm}(h:ZX P){k:Nat}(hk:k<P.length)(h0:0<k):0<lx (AZ P (k-1)).m (AZ P k).m:=by
 unfold ZX at h
 rw [List.pairwise_iff_getElem] at h
 have e:∀k (hk:k<P.length),AZ P k=P[k]:=λk hk=>by simp [AZ,List.getD_eq_getElem?_getD,List.getElem?_eq_getElem hk]
 rw [e _ hk,e (k-1) (by omega)]
 exact h (k-1) k (by omega) hk (by omega)
theorem XA{P:List Tm}(h:Canon P)(hi:PIn P 0 65535):IQ (P.map ofT):=λk hk=>by
 rw [List.length_map] at hk
 rw [Uf hk]
 refine ⟨⟨A23 _,λe=>?_,hi _ (CY hk)⟩,λh0=>?_⟩
 .have h1:=h.2 _ (CY hk)
  have h2:Am (AZ P k).c.num.natAbs=[]:=e
  have:=AT.1 (show (Am (AZ P k).c.num.natAbs).length=0 by rw [h2];rfl)
  exact Uj h1 (by omega)
 .rw [Uf (by omega)]
  show 0<Fc (AZ P (k-1)).m (AZ P k).m
  rw [<-GN]
  exact A2g h.1 hk h0
theorem A0k{P:List Tm}{N:Nat}(h:PSz P N)(hN:N<=1000000000):A3b (P.map ofT):=λr hr=>by
 obtain ⟨t,ht,rfl⟩:=List.mem_map.1 hr
 have:=h t ht
 exact ⟨Bk _,Bk _,Nat.le_trans this.1 hN,Nat.le_trans this.2 hN⟩
open Classical in
theorem PH(P:List Tm)(N:Nat)(h:Canon P)(hi:PIn P 0 65535)(hs:PSz P N)(hN:N<=1000000000)(hn:P.length<=1000000):Abs Tryz.prog 10 [Bp P] (ex (.bool true)):=by
 have:=RD (P.map ofT) (A0k hs hN) (by simpa using hn)
 rw [decide_eq_true (XA h hi)] at this
 rw [A0x]
 exact this
theorem Tj(c:Rat):Abs Tryz.prog 53 [BF (Bz c)] (Bp (Dm c)):=by
 by_cases hz:c=0
 .have hs:=CR.2 hz
  refine Ab Tryz.func53 λs0=>?_
  rw [Tryz.ntmps53]
  apply Y1;refine Bx ?_;refine Wa<|Y0<|Aa<|Y1 ?_;refine Wq Ar ?_;refine Wq (Af (De c)) ?_;refine Wq Ai ?_;refine Y0<|Ct<|Y1<|Wa<|Y0<|At<|AL ?_
  exact Bf (Rets.of1 (ResV.tmp rfl rfl) (D.le.trans Fp (Dq (by rw [Dm,if_pos hz]))))
 .have hs:c.num.sign≠0:=λe=>hz (CR.1 e)
  refine Ab Tryz.func53 λs0=>?_
  rw [Tryz.ntmps53]
  apply Y1;refine Bx ?_;refine Wa<|Y0<|Aa<|Y1 ?_;refine Wq Ar ?_;refine Wq (Af (De c)) ?_;refine Wq Aj ?_;refine Y0<|Cf<|Ys<|Y1 ?_;refine Wq Ar ?_;(refine Cr rfl rfl ?_;(refine BR (Ad rfl) rfl rfl rfl ?_;(repeat ((first | refine ⟨_,AO (ao rfl),?_⟩ | refine ⟨_,Po rfl,?_⟩);refine ⟨_,rfl,?_⟩));refine ⟨_,rfl,?_⟩));refine Wq (BJ (ao rfl) (Ad rfl) (Ad rfl) rfl rfl rfl rfl rfl) ?_;refine Wa<|Y0<|At ?_
  exact Bf (Rets.of1 (ResV.tmp rfl rfl) (Be (by rw [Dm,if_neg hz];rfl)))
theorem HU(n:Int)(h0:-9223372036854775808<=n)(h1:n<=9223372036854775807):Abs Tryz.prog 17 [ex (.int .i64 n)] (Bp (Dm n)):=by
 refine Ab Tryz.func17 λs0=>?_
 rw [Tryz.ntmps17]
 refine Y1<|Wa<|Y0<|Y1<|Wm ?_;refine Wq (Af (Bv n h0 h1)) ?_;refine Wq (Af (Tj n)) ?_;refine Wa<|Y0<|At ?_
 exact Yf
theorem Zy(i:Nat)(hi:i<8):Abs Tryz.prog 52 [ex (.int .i64 (i:Nat))] (CK [Bp [⟨1,Gm i⟩],ex (.int .i64 0)]):=by
 refine Ab Tryz.func52 λs0=>?_
 rw [Tryz.ntmps52]
 refine Y1<|Wa<|Wa<|Y0<|Aa<|Y1<|Wm ?_;refine Wq Aj ?_;refine Wm ?_;refine Wg Ae ?_;refine Wg Aj ?_;refine Wq Az ?_;refine Y0<|Cf<|Ys<|Y1 ?_;(refine Cr rfl rfl ?_;(refine FM (Ad rfl) (Ad rfl) rfl rfl ?_;(repeat ((first | refine ⟨_,AO (ao rfl),?_⟩ | refine ⟨_,Po rfl,?_⟩);refine ⟨_,rfl,?_⟩));refine ⟨_,rfl,?_⟩));refine Al ?_;refine Sf ?_;refine Y0<|Y1<|Wm ?_;refine Wq ET ?_
 refine A04 0 (BW λ_=>0) rfl rfl rfl ?_
 (refine Sb (ao rfl) (ao rfl) rfl (Ad rfl) (by first | exact Ij rfl | exact One.sl | exact MY) (SetAt.mon (by first | omega | (simp;omega))) rfl ?_);refine Y0<|Aa ?_
 refine Dr [[],[],[(14,0),(15,1)],[(16,2)]] [[],[],[0,1],[0,1,2]] ?_
 refine Xq (Af (Bv 1 (by omega) (by omega))) ?_;refine Xq Ar ?_;(refine Hq rfl ?_;refine BR (Ad rfl) rfl rfl rfl ?_;(repeat ((first | refine ⟨_,AO (ah rfl),?_⟩ | refine ⟨_,Po rfl,?_⟩);refine ⟨_,rfl,?_⟩));refine ⟨_,rfl,?_⟩;refine ⟨_,rfl,?_⟩);(refine Xq (BJ (ah rfl) (Ad rfl) (Ad rfl) rfl rfl rfl rfl rfl) ?_);refine ⟨_,rfl,?_⟩
 refine Wa<|Wa<|Y0<|At ?_
 exact Bf (BV (ResV.tmp rfl rfl) (ResV.tmp rfl rfl) (BM (D.le.refl _) (D.le.refl _)))
theorem Zx(i:Nat)(hi:i<8):Abs Tryz.prog 16 [ex (.int .i64 (i:Nat))] (Bp [⟨1,Gm i⟩]):=by
 refine Ab Tryz.func16 λs0=>?_
 rw [Tryz.ntmps16]
 refine Y1<|Wa<|Y0<|Y1<|Wm ?_;refine Wq (Af (Zy i hi)) ?_;refine Wm ?_;refine Wq Bd ?_;refine Wq Bd ?_;refine Wa<|Wa<|Y0<|Y1<|Wm<|Wa<|Y0<|At ?_
 exact Yf
def SH(a b:Nat->Int)(k:Nat):Nat->Int:=λj=>if j<k then a j+b j else a j
theorem YG(a b:Nat->Int)(k:Nat):Su (SH a b k) k (a k+b k)=SH a b (k+1):=by
 funext j
 simp only [Su,SH]
 rcases Nat.lt_trichotomy j k with h | h | h
 .rw [if_neg (by omega),if_pos h,if_pos (by omega)]
 .subst h;simp
 .rw [if_neg (by omega),if_neg (by omega),if_neg (by omega)]
theorem A0M(a b:Nat->Int)(k:Nat):SH a b k k=a k:=if_neg (Nat.lt_irrefl k)
theorem Oi(a b:Nat->Int)(ha:In8 a 0 65535)(hb:In8 b 0 65535)(h:In8 (Ba a b) 0 65535):Abs Tryz.prog 51 [BF (BW a),BF (BW b)] (CK [BF (BW (Ba a b)),ex (.int .i64 0)]):=by
 refine Ab Tryz.func51 λs0=>?_
 rw [Tryz.ntmps51]
 apply Y1;refine Bx ?_;refine Bx ?_;refine Al ?_;refine Wa<|Y0<|Aa<|Y1<|Wa<|Y0<|AWp.block ?_
 refine AQ (λmz σ=>∃k,k<=8/\mz=8-k/\σ=⟨[(2,.ptr 0 0),(3,.ptr 1 0),(4,.ptr 2 0),(6,.d (ex (.int .i64 (k:Nat))))],[.var 60 ((BW (SH a b k)).map .d),.var 60 ((BW b).map .d),.var 60 ((BW λ_=>0).map .d)]⟩) ?le ⟨0,by omega,rfl,rfl⟩ ?round
 case le=>exact Ak (by exact Yp<|Yp<|Yp<|Yd<|FrLe.nil) (by exact Yv<|Yv<|Yv<|HpLe.nil)
 case round=>
  rintro mz _ ⟨k,hk,rfl,rfl⟩
  by_cases hlt:k<8
  .have h1:=A0M a b k
   have h2:=ha k hlt
   have h3:=hb k hlt
   refine Aa<|Y1<|Wm ?_;refine Wq Ai ?_;refine Y0<|Ct<|Ys<|Aa<|AWp.block ?_
   refine Dr [[],[(11,0)],[(12,1)],[],[(14,3)],[(15,4)],[(13,2),(16,5)],[(11,0)]] [[],[0],[0,1],[],[3],[3,4],[0,1,2,3,4,5],[0,1,2,3,4,5,6]] ?_
   refine Xq Ae ?_;refine Xq ET ?_;refine Xq EG ?_;refine Xq Ae ?_;refine Xq ET ?_;refine Xq EG ?_;refine Xq EU ?_;refine Xq ET ?_;refine ⟨_,rfl,?_⟩
   (refine Sb (ao rfl) (ao rfl) rfl (Ad rfl) (by first | exact Ij rfl | exact One.sl | exact MY) (SetAt.mon (by first | omega | (simp;omega))) rfl ?_);refine AWl.nil<|Ah<|Yn<|AWp.region<|Wm ?_;refine Wq AH ?_;refine Wa<|AWl.nil ?_
   refine ALoop.next (8-(k+1)) (by omega) ⟨k+1,by omega,rfl,rfl⟩ ?_
   exact Ak (by exact Yp<|Yp<|Yp<|Yd<|FrLe.nil) (by exact HpLe.cons (GI (by rw [h1,YG]))<|Yv<|Yv<|HpLe.nil)
  .obtain rfl:k=8:=by omega
   refine Aa<|Y1<|Wm ?_;refine Wq Aj ?_;refine Y0<|Cf<|AP<|AA<|AF<|AB<|Yn<|Aa<|Y1 ?_;refine Wq Ar ?_;refine Wq (Af (Fh (SH a b 8) λi hi=>by have:=h i hi;rw [SH,if_pos hi];exact this)) ?_;refine Wq Bl ?_;refine Y0<|Cf<|Ys<|Y1 ?_;refine Wq Ar ?_;refine Sf ?_;refine Wa<|Y0<|At ?_
   exact Bf (BV (ResV.cell rfl rfl (Ad rfl) rfl rfl rfl) (ResV.tmp rfl rfl) (BM (D.le.refl _) (D.le.refl _)))
theorem A29{s t:Tm}{P Q:List Tm}(h:lx s.m t.m=1):CV (s::P) (t::Q)=s::CV P (t::Q):=by
 rw [CV,if_pos (show 0<lx s.m t.m by omega)]
theorem A28{s t:Tm}{P Q:List Tm}(h:lx s.m t.m = -1):CV (s::P) (t::Q)=t::CV (s::P) Q:=by
 rw [CV,if_neg (show ¬0<lx s.m t.m by omega),if_pos (show lx s.m t.m<0 by omega)]
theorem YD{s t:Tm}{P Q:List Tm}(h:lx s.m t.m=0):CV (s::P) (t::Q)=if s.c+t.c=0 then CV P Q else ⟨s.c+t.c,s.m⟩::CV P Q:=by
 rw [CV,if_neg (show ¬0<lx s.m t.m by omega),if_neg (show ¬lx s.m t.m<0 by omega)]
theorem Fa(Q:List Tm):CV [] Q=Q:=by rw [CV]
theorem MT(P Q:List Tm)(N M:Nat)(hP:PSz P N)(hQ:PSz Q M)(hNM:N+M+1<=4398046511103)(hn:P.length+Q.length<=100000):Abs Tryz.prog 18 [Bp P,Bp Q] (Bp (CV P Q)):=by
 refine Ab Tryz.func18 λs0=>?_
 rw [Tryz.ntmps18]
 refine Y1<|Wa<|Y0<|Y1 ?_;refine EA (Ad rfl) (Ad rfl) rfl rfl rfl rfl rfl ?_;refine Wa<|Y0<|Y1<|Wa<|Wa<|Y0<|Aa<|AWp.block ?_
 refine AQ (λmz σ=>∃(i k:Nat) (R:List Tm),i<=P.length/\k<=Q.length/\R++CV (P.drop i) (Q.drop k)=CV P Q/\R.length<=i+k/\mz=(P.length-i)+(Q.length-k)/\σ=⟨[(0,.d (Bp P)),(1,.d (Bp Q)),(5,.own 0),(6,.d (ex (.int .i64 (i:Nat)))),(7,.d (ex (.int .i64 (k:Nat))))],[.row 81 12 (R.map Ix)]⟩) ?le ⟨0,0,[],by omega,by omega,rfl,by simp,rfl,rfl⟩ ?round
 case le=>exact Ak (by exact Yd<|Yd<|FrLe.cons rfl (AVle.own rfl)<|Yd<|Yd<|FrLe.nil) (by exact Yr<|HpLe.nil)
 case round=>
  rintro mz _ ⟨i,k,R,hi,hk,heq,hl,rfl,rfl⟩
  by_cases hip:i<P.length
  .have hdP:=HJ hip
   by_cases hkq:k<Q.length
   .have hdQ:=HJ hkq
    rw [hdP,hdQ] at heq
    have hs:=hP _ (CY hip)
    have ht:=hQ _ (CY hkq)
    rcases JZ (AZ P i).m (AZ Q k).m with hc | hc | hc
    .have hc':Fc (AZ P i).m (AZ Q k).m = -1:=by rw [<-GN]; exact hc
     refine Aa<|Y1<|Wm<|Wm ?_;refine Wq AN ?_;refine Wq Ai ?_;refine Wm ?_;refine Ws ?_;refine Ws ?_;refine Ws ?_;refine Ws ?_;refine Wq AE ?_;refine Y0<|Ct<|Ys<|AWp.block<|Aa<|Aa ?_
     refine Dr [[],[],[(21,1)],[(20,0),(22,2)],[(23,3)],[],[],[(26,6)],[(25,5),(27,7)],[(28,8)],[],[],[(30,10),(31,11)],[(32,12)],[(33,13)],[],[],[(35,15),(36,16)],[(37,17)],[(38,18)],[(34,14),(39,19)],[(40,20)],[(29,9),(41,21)],[(24,4),(42,22)]] [[],[],[1],[0,1,2],[0,1,2,3],[0,1,2,3,4],[0,1,2,3,4],[0,1,2,3,4,6],[0,1,2,3,4,5,6,7],[0,1,2,3,4,5,6,7,8],[0,1,2,3,4,5,6,7,8,9],[0,1,2,3,4,5,6,7,8,9],[0,1,2,3,4,5,6,7,8,9,10,11],[0,1,2,3,4,5,6,7,8,9,10,11,12],[0,1,2,3,4,5,6,7,8,9,10,11,12,13],[0,1,2,3,4,5,6,7,8,9],[0,1,2,3,4,5,6,7,8,9],[0,1,2,3,4,5,6,7,8,9,15,16],[0,1,2,3,4,5,6,7,8,9,15,16,17],[0,1,2,3,4,5,6,7,8,9,15,16,17,18],[0,1,2,3,4,5,6,7,8,9,10,11,12,13,14,15,16,17,18,19],[0,1,2,3,4,5,6,7,8,9,10,11,12,13,14,15,16,17,18,19,20],[0,1,2,3,4,5,6,7,8,9,10,11,12,13,14,15,16,17,18,19,20,21],[0,1,2,3,4,5,6,7,8,9,10,11,12,13,14,15,16,17,18,19,20,21,22]] ?_
     refine Xq Ae ?_;refine Xq Ae ?_;refine Xq AN ?_;refine Xq Aj ?_;refine Xq Ae ?_;refine Xg Ae ?_;refine Xg Ae ?_;refine Xg AN ?_;refine Xg Ai ?_;refine Xg Ae ?_;refine Xg Ae ?_;refine Xg Ae ?_;refine Xg AC ?_;refine Xg Bc ?_;refine Xg As ?_;refine Xg Ae ?_;refine Xg Ae ?_;refine Xg AC ?_;refine Xg Bc ?_;refine Xg As ?_;refine Xg (Af (DP (AZ P i).m (AZ Q k).m)) ?_;refine Xg Aj ?_;refine Xg AE ?_;refine Xq Az ?_;refine ⟨_,rfl,?_⟩
     refine Y0<|Cf<|Ys<|Aa<|Aa ?_
     refine Dr [[],[],[(54,1)],[(53,0),(55,2)],[(56,3)],[],[],[(58,5),(59,6)],[(60,7)],[(61,8)],[],[],[(63,10),(64,11)],[(65,12)],[(66,13)],[(62,9),(67,14)],[(68,15)],[(57,4),(69,16)]] [[],[],[1],[0,1,2],[0,1,2,3],[0,1,2,3,4],[0,1,2,3,4],[0,1,2,3,4,5,6],[0,1,2,3,4,5,6,7],[0,1,2,3,4,5,6,7,8],[0,1,2,3,4],[0,1,2,3,4],[0,1,2,3,4,10,11],[0,1,2,3,4,10,11,12],[0,1,2,3,4,10,11,12,13],[0,1,2,3,4,5,6,7,8,9,10,11,12,13,14],[0,1,2,3,4,5,6,7,8,9,10,11,12,13,14,15],[0,1,2,3,4,5,6,7,8,9,10,11,12,13,14,15,16]] ?_
     refine Xq Ae ?_;refine Xq Ae ?_;refine Xq AN ?_;refine Xq Aj ?_;refine Xq Ae ?_;refine Xg Ae ?_;refine Xg Ae ?_;refine Xg AC ?_;refine Xg Bc ?_;refine Xg As ?_;refine Xg Ae ?_;refine Xg Ae ?_;refine Xg AC ?_;refine Xg Bc ?_;refine Xg As ?_;refine Xg (Af (DP (AZ P i).m (AZ Q k).m)) ?_;refine Xg Ai ?_;refine Xq Az ?_;refine ⟨_,rfl,?_⟩
     refine Y0<|Ct<|Y1<|Wm<|Wm<|Wm ?_;refine Wq AC ?_;refine Wq As ?_;refine Wq (BJ (ao rfl) (Ad rfl) (Ad rfl) rfl rfl rfl rfl rfl) ?_;(refine Ap ?_);refine Wa<|Y0<|Y1<|Wm ?_;refine Wq AH ?_;refine Wa<|Y0<|AP<|AA<|AB ?_
     refine ALoop.next ((P.length-i)+(Q.length-(k+1))) (by omega) ⟨i,k+1,R++[AZ Q k],by omega,by omega,?_,by simp;omega,rfl,rfl⟩ ?_
     .rw [A28 hc] at heq
      rw [<-heq,hdP];simp
     .exact Ak (by exact Yd<|Yd<|FrLe.cons rfl (AVle.own rfl)<|Yd<|Yd<|FrLe.nil) (by refine HpLe.cons (Cg (Dn Ix R (AZ Q k))) ?_;exact HpLe.nil)
    .have hc':Fc (AZ P i).m (AZ Q k).m=0:=by rw [<-GN]; exact hc
     by_cases hz:(AZ P i).c+(AZ Q k).c=0
     .have hsg:=CR.2 hz
      refine Aa<|Y1<|Wm<|Wm ?_;refine Wq AN ?_;refine Wq Ai ?_;refine Wm ?_;refine Ws ?_;refine Ws ?_;refine Ws ?_;refine Ws ?_;refine Wq AE ?_;refine Y0<|Ct<|Ys<|AWp.block<|Aa<|Aa ?_
      refine Dr [[],[],[(21,1)],[(20,0),(22,2)],[(23,3)],[],[],[(26,6)],[(25,5),(27,7)],[(28,8)],[],[],[(30,10),(31,11)],[(32,12)],[(33,13)],[],[],[(35,15),(36,16)],[(37,17)],[(38,18)],[(34,14),(39,19)],[(40,20)],[(29,9),(41,21)],[(24,4),(42,22)]] [[],[],[1],[0,1,2],[0,1,2,3],[0,1,2,3,4],[0,1,2,3,4],[0,1,2,3,4,6],[0,1,2,3,4,5,6,7],[0,1,2,3,4,5,6,7,8],[0,1,2,3,4,5,6,7,8,9],[0,1,2,3,4,5,6,7,8,9],[0,1,2,3,4,5,6,7,8,9,10,11],[0,1,2,3,4,5,6,7,8,9,10,11,12],[0,1,2,3,4,5,6,7,8,9,10,11,12,13],[0,1,2,3,4,5,6,7,8,9],[0,1,2,3,4,5,6,7,8,9],[0,1,2,3,4,5,6,7,8,9,15,16],[0,1,2,3,4,5,6,7,8,9,15,16,17],[0,1,2,3,4,5,6,7,8,9,15,16,17,18],[0,1,2,3,4,5,6,7,8,9,10,11,12,13,14,15,16,17,18,19],[0,1,2,3,4,5,6,7,8,9,10,11,12,13,14,15,16,17,18,19,20],[0,1,2,3,4,5,6,7,8,9,10,11,12,13,14,15,16,17,18,19,20,21],[0,1,2,3,4,5,6,7,8,9,10,11,12,13,14,15,16,17,18,19,20,21,22]] ?_
      refine Xq Ae ?_;refine Xq Ae ?_;refine Xq AN ?_;refine Xq Aj ?_;refine Xq Ae ?_;refine Xg Ae ?_;refine Xg Ae ?_;refine Xg AN ?_;refine Xg Ai ?_;refine Xg Ae ?_;refine Xg Ae ?_;refine Xg Ae ?_;refine Xg AC ?_;refine Xg Bc ?_;refine Xg As ?_;refine Xg Ae ?_;refine Xg Ae ?_;refine Xg AC ?_;refine Xg Bc ?_;refine Xg As ?_;refine Xg (Af (DP (AZ P i).m (AZ Q k).m)) ?_;refine Xg Aj ?_;refine Xg AE ?_;refine Xq Az ?_;refine ⟨_,rfl,?_⟩
      refine Y0<|Cf<|Ys<|Aa<|Aa ?_
      refine Dr [[],[],[(54,1)],[(53,0),(55,2)],[(56,3)],[],[],[(58,5),(59,6)],[(60,7)],[(61,8)],[],[],[(63,10),(64,11)],[(65,12)],[(66,13)],[(62,9),(67,14)],[(68,15)],[(57,4),(69,16)]] [[],[],[1],[0,1,2],[0,1,2,3],[0,1,2,3,4],[0,1,2,3,4],[0,1,2,3,4,5,6],[0,1,2,3,4,5,6,7],[0,1,2,3,4,5,6,7,8],[0,1,2,3,4],[0,1,2,3,4],[0,1,2,3,4,10,11],[0,1,2,3,4,10,11,12],[0,1,2,3,4,10,11,12,13],[0,1,2,3,4,5,6,7,8,9,10,11,12,13,14],[0,1,2,3,4,5,6,7,8,9,10,11,12,13,14,15],[0,1,2,3,4,5,6,7,8,9,10,11,12,13,14,15,16]] ?_
      refine Xq Ae ?_;refine Xq Ae ?_;refine Xq AN ?_;refine Xq Aj ?_;refine Xq Ae ?_;refine Xg Ae ?_;refine Xg Ae ?_;refine Xg AC ?_;refine Xg Bc ?_;refine Xg As ?_;refine Xg Ae ?_;refine Xg Ae ?_;refine Xg AC ?_;refine Xg Bc ?_;refine Xg As ?_;refine Xg (Af (DP (AZ P i).m (AZ Q k).m)) ?_;refine Xg Aj ?_;refine Xq Az ?_;refine ⟨_,rfl,?_⟩
      refine Y0<|Cf<|Ys<|Aa ?_
      refine Dr [[],[],[(80,0),(81,1)],[(82,2)],[(83,3)],[],[],[(85,5),(86,6)],[(87,7)],[(88,8)],[(84,4),(89,9)],[]] [[],[],[0,1],[0,1,2],[0,1,2,3],[],[],[5,6],[5,6,7],[5,6,7,8],[0,1,2,3,4,5,6,7,8,9],[]] ?_
      refine Xq Ae ?_;refine Xq Ae ?_;refine Xq AC ?_;refine Xq Bc ?_;refine Xq CP ?_;refine Xq Ae ?_;refine Xq Ae ?_;refine Xq AC ?_;refine Xq Bc ?_;refine Xq CP ?_;refine Xq (Af (HV (AZ P i).c (AZ Q k).c N M hs ht hNM)) ?_;refine Xn ?_;refine ⟨_,rfl,?_⟩
      refine Sf ?_;refine Y0<|Aa<|Y1 ?_;refine Wq Ar ?_;refine Wq (Af (De ((AZ P i).c+(AZ Q k).c))) ?_;refine Wq Aj ?_;refine Y0<|Cf<|Ys<|Y1<|Wm ?_;refine Wq AH ?_;refine Wa<|Y0<|AWp.region<|Wm ?_;refine Wq AH ?_;refine Wa<|AWl.nil<|Ah ?_
      refine ALoop.next ((P.length-(i+1))+(Q.length-(k+1))) (by omega) ⟨i+1,k+1,R,by omega,by omega,?_,by omega,rfl,rfl⟩ ?_
      .rw [YD hc,if_pos hz] at heq
       exact heq
      .exact Ak (by exact Yd<|Yd<|FrLe.cons rfl (AVle.own rfl)<|Yd<|Yd<|FrLe.nil) (by exact Yr<|HpLe.nil)
     .have hsg:((AZ P i).c+(AZ Q k).c).num.sign≠0:=λe=>hz (CR.1 e)
      refine Aa<|Y1<|Wm<|Wm ?_;refine Wq AN ?_;refine Wq Ai ?_;refine Wm ?_;refine Ws ?_;refine Ws ?_;refine Ws ?_;refine Ws ?_;refine Wq AE ?_;refine Y0<|Ct<|Ys<|AWp.block<|Aa<|Aa ?_
      refine Dr [[],[],[(21,1)],[(20,0),(22,2)],[(23,3)],[],[],[(26,6)],[(25,5),(27,7)],[(28,8)],[],[],[(30,10),(31,11)],[(32,12)],[(33,13)],[],[],[(35,15),(36,16)],[(37,17)],[(38,18)],[(34,14),(39,19)],[(40,20)],[(29,9),(41,21)],[(24,4),(42,22)]] [[],[],[1],[0,1,2],[0,1,2,3],[0,1,2,3,4],[0,1,2,3,4],[0,1,2,3,4,6],[0,1,2,3,4,5,6,7],[0,1,2,3,4,5,6,7,8],[0,1,2,3,4,5,6,7,8,9],[0,1,2,3,4,5,6,7,8,9],[0,1,2,3,4,5,6,7,8,9,10,11],[0,1,2,3,4,5,6,7,8,9,10,11,12],[0,1,2,3,4,5,6,7,8,9,10,11,12,13],[0,1,2,3,4,5,6,7,8,9],[0,1,2,3,4,5,6,7,8,9],[0,1,2,3,4,5,6,7,8,9,15,16],[0,1,2,3,4,5,6,7,8,9,15,16,17],[0,1,2,3,4,5,6,7,8,9,15,16,17,18],[0,1,2,3,4,5,6,7,8,9,10,11,12,13,14,15,16,17,18,19],[0,1,2,3,4,5,6,7,8,9,10,11,12,13,14,15,16,17,18,19,20],[0,1,2,3,4,5,6,7,8,9,10,11,12,13,14,15,16,17,18,19,20,21],[0,1,2,3,4,5,6,7,8,9,10,11,12,13,14,15,16,17,18,19,20,21,22]] ?_
      refine Xq Ae ?_;refine Xq Ae ?_;refine Xq AN ?_;refine Xq Aj ?_;refine Xq Ae ?_;refine Xg Ae ?_;refine Xg Ae ?_;refine Xg AN ?_;refine Xg Ai ?_;refine Xg Ae ?_;refine Xg Ae ?_;refine Xg Ae ?_;refine Xg AC ?_;refine Xg Bc ?_;refine Xg As ?_;refine Xg Ae ?_;refine Xg Ae ?_;refine Xg AC ?_;refine Xg Bc ?_;refine Xg As ?_;refine Xg (Af (DP (AZ P i).m (AZ Q k).m)) ?_;refine Xg Aj ?_;refine Xg AE ?_;refine Xq Az ?_;refine ⟨_,rfl,?_⟩
      refine Y0<|Cf<|Ys<|Aa<|Aa ?_
      refine Dr [[],[],[(54,1)],[(53,0),(55,2)],[(56,3)],[],[],[(58,5),(59,6)],[(60,7)],[(61,8)],[],[],[(63,10),(64,11)],[(65,12)],[(66,13)],[(62,9),(67,14)],[(68,15)],[(57,4),(69,16)]] [[],[],[1],[0,1,2],[0,1,2,3],[0,1,2,3,4],[0,1,2,3,4],[0,1,2,3,4,5,6],[0,1,2,3,4,5,6,7],[0,1,2,3,4,5,6,7,8],[0,1,2,3,4],[0,1,2,3,4],[0,1,2,3,4,10,11],[0,1,2,3,4,10,11,12],[0,1,2,3,4,10,11,12,13],[0,1,2,3,4,5,6,7,8,9,10,11,12,13,14],[0,1,2,3,4,5,6,7,8,9,10,11,12,13,14,15],[0,1,2,3,4,5,6,7,8,9,10,11,12,13,14,15,16]] ?_
      refine Xq Ae ?_;refine Xq Ae ?_;refine Xq AN ?_;refine Xq Aj ?_;refine Xq Ae ?_;refine Xg Ae ?_;refine Xg Ae ?_;refine Xg AC ?_;refine Xg Bc ?_;refine Xg As ?_;refine Xg Ae ?_;refine Xg Ae ?_;refine Xg AC ?_;refine Xg Bc ?_;refine Xg As ?_;refine Xg (Af (DP (AZ P i).m (AZ Q k).m)) ?_;refine Xg Aj ?_;refine Xq Az ?_;refine ⟨_,rfl,?_⟩
      refine Y0<|Cf<|Ys<|Aa ?_
      refine Dr [[],[],[(80,0),(81,1)],[(82,2)],[(83,3)],[],[],[(85,5),(86,6)],[(87,7)],[(88,8)],[(84,4),(89,9)],[]] [[],[],[0,1],[0,1,2],[0,1,2,3],[],[],[5,6],[5,6,7],[5,6,7,8],[0,1,2,3,4,5,6,7,8,9],[]] ?_
      refine Xq Ae ?_;refine Xq Ae ?_;refine Xq AC ?_;refine Xq Bc ?_;refine Xq CP ?_;refine Xq Ae ?_;refine Xq Ae ?_;refine Xq AC ?_;refine Xq Bc ?_;refine Xq CP ?_;refine Xq (Af (HV (AZ P i).c (AZ Q k).c N M hs ht hNM)) ?_;refine Xn ?_;refine ⟨_,rfl,?_⟩
      refine Sf ?_;refine Y0<|Aa<|Y1 ?_;refine Wq Ar ?_;refine Wq (Af (De ((AZ P i).c+(AZ Q k).c))) ?_;refine Wq Ai ?_;refine Y0<|Ct ?_
      refine Dr [[],[],[],[],[(96,2),(97,3)],[(98,4)],[(99,5)],[(95,1),(100,6)],[(101,7)]] [[],[],[],[],[2,3],[2,3,4],[2,3,4,5],[1,2,3,4,5,6],[1,2,3,4,5,6,7]] ?_
      refine Xq Ae ?_;refine Xq Ar ?_;refine Xq Ae ?_;refine Xq Ae ?_;refine Xq AC ?_;refine Xq Bc ?_;refine Xq As ?_;(refine Hq rfl ?_;refine BR (Ad rfl) rfl rfl rfl ?_;(repeat ((first | refine ⟨_,AO (ah rfl),?_⟩ | refine ⟨_,Po rfl,?_⟩);refine ⟨_,rfl,?_⟩));refine ⟨_,rfl,?_⟩;refine ⟨_,rfl,?_⟩);(refine Xq (BJ (ah rfl) (Ad rfl) (Ad rfl) rfl rfl rfl rfl rfl) ?_);refine ⟨_,rfl,?_⟩
      (refine Ap ?_);refine Wa<|Y0<|Y1<|Wm ?_;refine Wq AH ?_;refine Wa<|Y0<|AWp.region<|Wm ?_;refine Wq AH ?_;refine Wa<|AWl.nil<|Ah ?_
      refine ALoop.next ((P.length-(i+1))+(Q.length-(k+1))) (by omega) ⟨i+1,k+1,R++[⟨(AZ P i).c+(AZ Q k).c,(AZ P i).m⟩],by omega,by omega,?_,by simp;omega,rfl,rfl⟩ ?_
      .rw [YD hc,if_neg hz] at heq
       rw [<-heq];simp
      .exact Ak (by exact Yd<|Yd<|FrLe.cons rfl (AVle.own rfl)<|Yd<|Yd<|FrLe.nil) (by refine HpLe.cons (Cg (Dn Ix R ⟨(AZ P i).c+(AZ Q k).c,(AZ P i).m⟩)) ?_;exact HpLe.nil)
    .have hc':Fc (AZ P i).m (AZ Q k).m=1:=by rw [<-GN]; exact hc
     refine Aa<|Y1<|Wm<|Wm ?_;refine Wq AN ?_;refine Wq Ai ?_;refine Wm ?_;refine Ws ?_;refine Ws ?_;refine Ws ?_;refine Ws ?_;refine Wq AE ?_;refine Y0<|Ct<|Ys<|AWp.block<|Aa<|Aa ?_
     refine Dr [[],[],[(21,1)],[(20,0),(22,2)],[(23,3)],[],[],[(26,6)],[(25,5),(27,7)],[(28,8)],[],[],[(30,10),(31,11)],[(32,12)],[(33,13)],[],[],[(35,15),(36,16)],[(37,17)],[(38,18)],[(34,14),(39,19)],[(40,20)],[(29,9),(41,21)],[(24,4),(42,22)]] [[],[],[1],[0,1,2],[0,1,2,3],[0,1,2,3,4],[0,1,2,3,4],[0,1,2,3,4,6],[0,1,2,3,4,5,6,7],[0,1,2,3,4,5,6,7,8],[0,1,2,3,4,5,6,7,8,9],[0,1,2,3,4,5,6,7,8,9],[0,1,2,3,4,5,6,7,8,9,10,11],[0,1,2,3,4,5,6,7,8,9,10,11,12],[0,1,2,3,4,5,6,7,8,9,10,11,12,13],[0,1,2,3,4,5,6,7,8,9],[0,1,2,3,4,5,6,7,8,9],[0,1,2,3,4,5,6,7,8,9,15,16],[0,1,2,3,4,5,6,7,8,9,15,16,17],[0,1,2,3,4,5,6,7,8,9,15,16,17,18],[0,1,2,3,4,5,6,7,8,9,10,11,12,13,14,15,16,17,18,19],[0,1,2,3,4,5,6,7,8,9,10,11,12,13,14,15,16,17,18,19,20],[0,1,2,3,4,5,6,7,8,9,10,11,12,13,14,15,16,17,18,19,20,21],[0,1,2,3,4,5,6,7,8,9,10,11,12,13,14,15,16,17,18,19,20,21,22]] ?_
     refine Xq Ae ?_;refine Xq Ae ?_;refine Xq AN ?_;refine Xq Aj ?_;refine Xq Ae ?_;refine Xg Ae ?_;refine Xg Ae ?_;refine Xg AN ?_;refine Xg Ai ?_;refine Xg Ae ?_;refine Xg Ae ?_;refine Xg Ae ?_;refine Xg AC ?_;refine Xg Bc ?_;refine Xg As ?_;refine Xg Ae ?_;refine Xg Ae ?_;refine Xg AC ?_;refine Xg Bc ?_;refine Xg As ?_;refine Xg (Af (DP (AZ P i).m (AZ Q k).m)) ?_;refine Xg Ai ?_;refine Xg AE ?_;refine Xq Az ?_;refine ⟨_,rfl,?_⟩
     refine Y0<|Ct<|Y1<|Wm<|Wm<|Wm ?_;refine Wq AC ?_;refine Wq As ?_;refine Wq (BJ (ao rfl) (Ad rfl) (Ad rfl) rfl rfl rfl rfl rfl) ?_;(refine Ap ?_);refine Wa<|Y0<|Y1<|Wm ?_;refine Wq AH ?_;refine Wa<|Y0<|AP<|AA<|AB ?_
     refine ALoop.next ((P.length-(i+1))+(Q.length-k)) (by omega) ⟨i+1,k,R++[AZ P i],by omega,by omega,?_,by simp;omega,rfl,rfl⟩ ?_
     .rw [A29 hc] at heq
      rw [<-heq,hdQ];simp
     .exact Ak (by exact Yd<|Yd<|FrLe.cons rfl (AVle.own rfl)<|Yd<|Yd<|FrLe.nil) (by refine HpLe.cons (Cg (Dn Ix R (AZ P i))) ?_;exact HpLe.nil)
   .refine Aa<|Y1<|Wm<|Wm ?_;refine Wq AN ?_;refine Wq Ai ?_;refine Wm ?_;refine Ws ?_;refine Ws ?_;refine Ws ?_;refine Ws ?_;refine Wq AE ?_;refine Y0<|Ct<|Ys<|AWp.block<|Aa<|Aa ?_
    refine Dr [[],[],[(21,1)],[(20,0),(22,2)],[(23,3)],[],[],[(26,6)],[(25,5),(27,7)],[(28,8)],[],[],[(30,10),(31,11)],[(32,12)],[(33,13)],[],[],[(35,15),(36,16)],[(37,17)],[(38,18)],[(34,14),(39,19)],[(40,20)],[(29,9),(41,21)],[(24,4),(42,22)]] [[],[],[1],[0,1,2],[0,1,2,3],[0,1,2,3,4],[0,1,2,3,4],[0,1,2,3,4,6],[0,1,2,3,4,5,6,7],[0,1,2,3,4,5,6,7,8],[0,1,2,3,4,5,6,7,8,9],[0,1,2,3,4,5,6,7,8,9],[0,1,2,3,4,5,6,7,8,9,10,11],[0,1,2,3,4,5,6,7,8,9,10,11,12],[0,1,2,3,4,5,6,7,8,9,10,11,12,13],[0,1,2,3,4,5,6,7,8,9],[0,1,2,3,4,5,6,7,8,9],[0,1,2,3,4,5,6,7,8,9,15,16],[0,1,2,3,4,5,6,7,8,9,15,16,17],[0,1,2,3,4,5,6,7,8,9,15,16,17,18],[0,1,2,3,4,5,6,7,8,9,10,11,12,13,14,15,16,17,18,19],[0,1,2,3,4,5,6,7,8,9,10,11,12,13,14,15,16,17,18,19,20],[0,1,2,3,4,5,6,7,8,9,10,11,12,13,14,15,16,17,18,19,20,21],[0,1,2,3,4,5,6,7,8,9,10,11,12,13,14,15,16,17,18,19,20,21,22]] ?_
    refine Xq Ae ?_;refine Xq Ae ?_;refine Xq AN ?_;refine Xq Ai ?_;refine Xq Ae ?_;refine Xs ?_;refine Xs ?_;refine Xs ?_;refine Xs ?_;refine Xs ?_;refine Xs ?_;refine Xs ?_;refine Xs ?_;refine Xs ?_;refine Xs ?_;refine Xs ?_;refine Xs ?_;refine Xs ?_;refine Xs ?_;refine Xs ?_;refine Xs ?_;refine Xs ?_;refine Xs ?_;refine Xq AE ?_;refine ⟨_,rfl,?_⟩
    refine Y0<|Ct<|Y1<|Wm<|Wm<|Wm ?_;refine Wq AC ?_;refine Wq As ?_;refine Wq (BJ (ao rfl) (Ad rfl) (Ad rfl) rfl rfl rfl rfl rfl) ?_;(refine Ap ?_);refine Wa<|Y0<|Y1<|Wm ?_;refine Wq AH ?_;refine Wa<|Y0<|AP<|AA<|AB ?_
    refine ALoop.next ((P.length-(i+1))+(Q.length-k)) (by omega) ⟨i+1,k,R++[AZ P i],by omega,by omega,?_,by simp;omega,rfl,rfl⟩ ?_
    .have hq:Q.drop k=[]:=List.drop_eq_nil_of_le (by omega)
     rw [hdP,hq,Pc] at heq
     rw [<-heq,hq,Pc];simp
    .exact Ak (by exact Yd<|Yd<|FrLe.cons rfl (AVle.own rfl)<|Yd<|Yd<|FrLe.nil) (by refine HpLe.cons (Cg (Dn Ix R (AZ P i))) ?_;exact HpLe.nil)
  .have hp:P.drop i=[]:=List.drop_eq_nil_of_le (by omega)
   by_cases hkq:k<Q.length
   .have hdQ:=HJ hkq
    refine Aa<|Y1<|Wm<|Wm ?_;refine Wq AN ?_;refine Wq Aj ?_;refine Wm ?_;refine Wg Ae ?_;refine Wg Ae ?_;refine Wg AN ?_;refine Wg Ai ?_;refine Wq Az ?_;refine Y0<|Ct<|Ys<|AWp.block<|Aa<|Aa ?_
    refine Dr [[],[],[(21,1)],[(20,0),(22,2)],[(23,3)],[],[],[(26,6)],[(25,5),(27,7)],[(28,8)],[],[],[(30,10),(31,11)],[(32,12)],[(33,13)],[],[],[(35,15),(36,16)],[(37,17)],[(38,18)],[(34,14),(39,19)],[(40,20)],[(29,9),(41,21)],[(24,4),(42,22)]] [[],[],[1],[0,1,2],[0,1,2,3],[0,1,2,3,4],[0,1,2,3,4],[0,1,2,3,4,6],[0,1,2,3,4,5,6,7],[0,1,2,3,4,5,6,7,8],[0,1,2,3,4,5,6,7,8,9],[0,1,2,3,4,5,6,7,8,9],[0,1,2,3,4,5,6,7,8,9,10,11],[0,1,2,3,4,5,6,7,8,9,10,11,12],[0,1,2,3,4,5,6,7,8,9,10,11,12,13],[0,1,2,3,4,5,6,7,8,9],[0,1,2,3,4,5,6,7,8,9],[0,1,2,3,4,5,6,7,8,9,15,16],[0,1,2,3,4,5,6,7,8,9,15,16,17],[0,1,2,3,4,5,6,7,8,9,15,16,17,18],[0,1,2,3,4,5,6,7,8,9,10,11,12,13,14,15,16,17,18,19],[0,1,2,3,4,5,6,7,8,9,10,11,12,13,14,15,16,17,18,19,20],[0,1,2,3,4,5,6,7,8,9,10,11,12,13,14,15,16,17,18,19,20,21],[0,1,2,3,4,5,6,7,8,9,10,11,12,13,14,15,16,17,18,19,20,21,22]] ?_
    refine Xq Ae ?_;refine Xq Ae ?_;refine Xq AN ?_;refine Xq Aj ?_;refine Xq Ae ?_;refine Xg Ae ?_;refine Xg Ae ?_;refine Xg AN ?_;refine Xg Aj ?_;refine Xg Ae ?_;refine Xs ?_;refine Xs ?_;refine Xs ?_;refine Xs ?_;refine Xs ?_;refine Xs ?_;refine Xs ?_;refine Xs ?_;refine Xs ?_;refine Xs ?_;refine Xs ?_;refine Xs ?_;refine Xg Az ?_;refine Xq Az ?_;refine ⟨_,rfl,?_⟩
    refine Y0<|Cf<|Ys<|Aa<|Aa ?_
    refine Dr [[],[],[(54,1)],[(53,0),(55,2)],[(56,3)],[],[],[(58,5),(59,6)],[(60,7)],[(61,8)],[],[],[(63,10),(64,11)],[(65,12)],[(66,13)],[(62,9),(67,14)],[(68,15)],[(57,4),(69,16)]] [[],[],[1],[0,1,2],[0,1,2,3],[0,1,2,3,4],[0,1,2,3,4],[0,1,2,3,4,5,6],[0,1,2,3,4,5,6,7],[0,1,2,3,4,5,6,7,8],[0,1,2,3,4],[0,1,2,3,4],[0,1,2,3,4,10,11],[0,1,2,3,4,10,11,12],[0,1,2,3,4,10,11,12,13],[0,1,2,3,4,5,6,7,8,9,10,11,12,13,14],[0,1,2,3,4,5,6,7,8,9,10,11,12,13,14,15],[0,1,2,3,4,5,6,7,8,9,10,11,12,13,14,15,16]] ?_
    refine Xq Ae ?_;refine Xq Ae ?_;refine Xq AN ?_;refine Xq Ai ?_;refine Xq Ae ?_;refine Xs ?_;refine Xs ?_;refine Xs ?_;refine Xs ?_;refine Xs ?_;refine Xs ?_;refine Xs ?_;refine Xs ?_;refine Xs ?_;refine Xs ?_;refine Xs ?_;refine Xs ?_;refine Xq AE ?_;refine ⟨_,rfl,?_⟩
    refine Y0<|Ct<|Y1<|Wm<|Wm<|Wm ?_;refine Wq AC ?_;refine Wq As ?_;refine Wq (BJ (ao rfl) (Ad rfl) (Ad rfl) rfl rfl rfl rfl rfl) ?_;(refine Ap ?_);refine Wa<|Y0<|Y1<|Wm ?_;refine Wq AH ?_;refine Wa<|Y0<|AP<|AA<|AB ?_
    refine ALoop.next ((P.length-i)+(Q.length-(k+1))) (by omega) ⟨i,k+1,R++[AZ Q k],by omega,by omega,?_,by simp;omega,rfl,rfl⟩ ?_
    .rw [hdQ,hp,Fa] at heq
     rw [<-heq,hp,Fa];simp
    .exact Ak (by exact Yd<|Yd<|FrLe.cons rfl (AVle.own rfl)<|Yd<|Yd<|FrLe.nil) (by refine HpLe.cons (Cg (Dn Ix R (AZ Q k))) ?_;exact HpLe.nil)
   .refine Aa<|Y1<|Wm<|Wm ?_;refine Wq AN ?_;refine Wq Aj ?_;refine Wm ?_;refine Wg Ae ?_;refine Wg Ae ?_;refine Wg AN ?_;refine Wg Aj ?_;refine Wq Az ?_;refine Y0<|Cf<|AP<|AA<|AF<|AB<|Yn<|Y1<|Wm<|Wa<|Y0<|At ?_
    have hq:Q.drop k=[]:=List.drop_eq_nil_of_le (by omega)
    exact Bf (Rets.of1 (ResV.tmp rfl rfl) (Be (by rw [<-heq,hp,hq,Fa,List.append_nil];rfl)))
theorem RC(c:Rat)(m:Nat->Int)(P:List Tm)(hc:c=0):Abs Tryz.prog 55 [BF (Bz c),BF (BW m),Bp P] (CK [Bp [],ex (.int .i64 0)]):=by
 have hs:=CR.2 hc
 refine Ab Tryz.func55 λs0=>?_
 rw [Tryz.ntmps55]
 apply Y1;refine Bx ?_;refine Bx ?_;refine Wa<|Wa<|Y0<|Y1 ?_;refine EA (Ad rfl) (Ad rfl) rfl rfl rfl rfl rfl ?_;refine Wa<|Y0<|Aa<|Y1 ?_;refine Wq Ar ?_;refine Wq (Af (De c)) ?_;refine Wq Ai ?_;refine Y0<|Ct<|Y1<|Wa<|Wa<|Y0<|At<|AL ?_
 exact Bf (BV (ResV.tmp rfl rfl) (ResV.tmp rfl rfl) (BM (Fp) (D.le.refl _)))
theorem MQ(c:Rat)(m:Nat->Int)(P:List Tm)(N M:Nat)(hc:c≠0)(hcs:RSz c N)(hm:In8 m 0 65535)(hP:PSz P M)(hPi:PIn P 0 65535)(hmP:∀t∈P,In8 (Ba m t.m) 0 65535)(hn:P.length<=100000)(hNM:N+M<=4398046511103):Abs Tryz.prog 55 [BF (Bz c),BF (BW m),Bp P] (CK [Bp (Nr c m P),ex (.int .i64 0)]):=by
 have hs:c.num.sign≠0:=λe=>hc (CR.1 e)
 refine Ab Tryz.func55 λs0=>?_
 rw [Tryz.ntmps55]
 apply Y1;refine Bx ?_;refine Bx ?_;refine Wa<|Wa<|Y0<|Y1 ?_;refine EA (Ad rfl) (Ad rfl) rfl rfl rfl rfl rfl ?_;refine Wa<|Y0<|Aa<|Y1 ?_;refine Wq Ar ?_;refine Wq (Af (De c)) ?_;refine Wq Aj ?_;refine Y0<|Cf<|Ys<|Aa<|Y1<|Wa<|Y0<|AWp.block ?_
 refine AQ (λmz σ=>∃k,k<=P.length/\mz=P.length-k/\σ=⟨[(2,.d (Bp P)),(3,.ptr 0 0),(4,.ptr 1 0),(8,.own 2),(9,.d (ex (.int .i64 (k:Nat))))],[.var 42 ((Bz c).map .d),.var 60 ((BW m).map .d),.row 81 12 ((Nr c m (P.take k)).map Ix)]⟩) ?le ⟨0,by omega,rfl,rfl⟩ ?round
 case le=>exact Ak (by exact Yd<|Yp<|Yp<|FrLe.cons rfl (AVle.own rfl)<|Yd<|FrLe.nil) (by exact Yv<|Yv<|Yr<|HpLe.nil)
 case round=>
  rintro mz _ ⟨k,hk,rfl,rfl⟩
  by_cases hlt:k<P.length
  .have ht:=CY hlt
   have htk:=Ft hlt
   refine Aa<|Y1<|Wm<|Wm ?_;refine Wq AN ?_;refine Wq Ai ?_;refine Y0<|Ct<|Ys<|Aa<|AWp.block<|Aa ?_
   refine Hc (DR (e:=9) (by kernel_rfl) (K4 (K4 (AddE.keep (AddE.keep (AddE.keep (AddE.add (AddE.keep AddE.nil))))))) (by kernel_rfl)) [[],[],[],[(24,1),(25,2)],[(26,3)],[(27,4)],[(23,0),(28,5)],[(29,6)],[(22,7)],[(22,7)],[]] [[],[],[],[1,2],[1,2,3],[1,2,3,4],[0,1,2,3,4,5],[0,1,2,3,4,5,6],[0,1,2,3,4,5,6,7],[0,1,2,3,4,5,6,7],[]] rfl (by kernel_rfl) (by kernel_rfl) (by kernel_rfl) ?_
   refine Xq Ar ?_;refine Xq Ae ?_;refine Xq Ae ?_;refine Xq AC ?_;refine Xq Bc ?_;refine Xq As ?_;refine Xq (Af (Oi m (AZ P k).m hm (hPi _ ht) (hmP _ ht))) ?_;refine Xq Ae ?_;refine Xq Bd ?_;refine Xq Bd ?_;refine Xn ?_;refine ⟨_,rfl,?_⟩
   refine Sf ?_;refine Wa<|AWl.nil ?_;apply OnlyN.mk';refine Yn<|Aa<|Y1<|Wm ?_;refine Wq Aj ?_;refine Y0<|Cf<|Ys ?_
   refine Dr [[],[],[],[],[(36,2),(37,3)],[(38,4)],[(39,5)],[(35,1),(40,6)],[],[(41,7),(42,8)],[(43,9)]] [[],[],[],[],[2,3],[2,3,4],[2,3,4,5],[1,2,3,4,5,6],[],[1,2,3,4,5,6,7,8],[1,2,3,4,5,6,7,8,9]] ?_
   refine Xq Ae ?_;refine Xq Ar ?_;refine Xq Ae ?_;refine Xq Ae ?_;refine Xq AC ?_;refine Xq Bc ?_;refine Xq CP ?_;refine Xq (Af (RE c (AZ P k).c N M hcs (hP _ ht) hNM)) ?_;refine Xq Ar ?_;(refine Hq rfl ?_;refine BR (Ad rfl) rfl rfl rfl ?_;(repeat ((first | refine ⟨_,AO (ah rfl),?_⟩ | refine ⟨_,Po rfl,?_⟩);refine ⟨_,rfl,?_⟩));refine ⟨_,rfl,?_⟩;refine ⟨_,rfl,?_⟩);(refine Xq (BJ (ah rfl) (Ad rfl) (Ad rfl) rfl rfl rfl rfl rfl) ?_);refine ⟨_,rfl,?_⟩
   (refine Ap ?_);refine Wa<|AWl.nil<|Ah<|Yn<|AWp.region<|Wm ?_;refine Wq AH ?_;refine Wa<|AWl.nil ?_
   refine ALoop.next (P.length-(k+1)) (by omega) ⟨k+1,by omega,rfl,rfl⟩ ?_
   exact Ak (by exact Yd<|Yp<|Yp<|FrLe.cons rfl (AVle.own rfl)<|Yd<|FrLe.nil) (by apply Yv;apply Yv;(refine HpLe.cons (Cg ((Dn Ix _ ⟨c*(AZ P k).c,Ba m (AZ P k).m⟩).trans (by rw [<-htk];simp [Nr]))) ?_);exact HpLe.nil)
  .obtain rfl:k=P.length:=by omega
   refine Aa<|Y1<|Wm<|Wm ?_;refine Wq AN ?_;refine Wq Aj ?_;refine Y0<|Cf<|AP<|AA<|AF<|AB<|Yn<|Y1<|Wm<|Wa<|Wa<|Y0<|At ?_
   exact Bf (BV (ResV.tmp rfl rfl) (ResV.tmp rfl rfl) (BM (Be (by rw [List.take_length];rfl)) (D.le.refl _)))
def Eu(c:Rat)(P:List Tm):List Tm:=if c=0 then [] else Nr c (λ_=>0) P
theorem IU(c:Rat)(P:List Tm)(N M:Nat)(hcs:RSz c N)(hP:PSz P M)(hPi:PIn P 0 65535)(hn:P.length<=100000)(hNM:N+M<=4398046511103):Abs Tryz.prog 21 [BF (Bz c),Bp P] (Bp (Eu c P)):=by
 by_cases hc:c=0
 .refine Ab Tryz.func21 λs0=>?_
  rw [Tryz.ntmps21]
  apply Y1;refine Bx ?_;refine Wa<|Y0<|Y1 ?_;refine Wq Ar ?_;(refine Cr rfl rfl ?_;(refine FM (Ad rfl) (Ad rfl) rfl rfl ?_;(repeat ((first | refine ⟨_,AO (ao rfl),?_⟩ | refine ⟨_,Po rfl,?_⟩);refine ⟨_,rfl,?_⟩));refine ⟨_,rfl,?_⟩));refine Wm ?_;refine Wq (Af (RC c (λ_=>0) P hc)) ?_;refine Wm ?_;refine Wq Bd ?_;refine Wq Bd ?_;refine Wa<|Wa<|Y0<|Y1<|Wm<|Wa<|Y0<|At ?_
  exact Bf (Rets.of1 (ResV.tmp rfl rfl) (Dq (by rw [Eu,if_pos hc])))
 .refine Ab Tryz.func21 λs0=>?_
  rw [Tryz.ntmps21]
  apply Y1;refine Bx ?_;refine Wa<|Y0<|Y1 ?_;refine Wq Ar ?_;(refine Cr rfl rfl ?_;(refine FM (Ad rfl) (Ad rfl) rfl rfl ?_;(repeat ((first | refine ⟨_,AO (ao rfl),?_⟩ | refine ⟨_,Po rfl,?_⟩);refine ⟨_,rfl,?_⟩));refine ⟨_,rfl,?_⟩));refine Wm ?_;refine Wq (Af (MQ c (λ_=>0) P N M hc hcs In8.zero hP hPi (λt ht=>by rw [HY];exact hPi t ht) hn hNM)) ?_;refine Wm ?_;refine Wq Bd ?_;refine Wq Bd ?_;refine Wa<|Wa<|Y0<|Y1<|Wm<|Wa<|Y0<|At ?_
  exact Bf (Rets.of1 (ResV.tmp rfl rfl) (Dq (by rw [Eu,if_neg hc])))
theorem TT{c:Rat}{m:Nat->Int}{P:List Tm}{N M:Nat}(hc:RSz c N)(hP:PSz P M):PSz (Nr c m P) (N+M):=λt ht=>by
 obtain ⟨s,hs,rfl⟩:=List.mem_map.1 ht
 exact hc.mul (hP s hs)
theorem XS{c:Rat}{P:List Tm}{N M:Nat}(hc:RSz c N)(hP:PSz P M):PSz (Eu c P) (N+M):=by
 unfold Eu
 split
 .intro t ht;cases ht
 .exact TT hc hP
theorem Qo(c:Rat)(P:List Tm):(Eu c P).length<=P.length:=by
 unfold Eu
 split<;>simp
theorem Dj{x:Int}(h0:-1000<=x)(h1:x<=1000):RSz ((x:Int):Rat) 1:=by
 refine ⟨?_,?_⟩
 .show (Am (x:Int).natAbs).length<=1
  exact Ei (by simp only [BB,Nat.pow_one];omega)
 .show (Am 1).length<=1
  exact Ei (by simp only [BB,Nat.pow_one];omega)
theorem Zz(P Q:List Tm)(N M:Nat)(hP:PSz P N)(hQ:PSz Q M)(hQi:PIn Q 0 65535)(hNM:N+M+2<=4398046511103)(hn:P.length+Q.length<=100000):Abs Tryz.prog 20 [Bp P,Bp Q] (Bp (CV P (Eu (-1:Int) Q))):=by
 have h1:RSz ((-1:Int):Rat) 1:=Dj (by omega) (by omega)
 have hl:=Qo (-1:Int) Q
 refine Ab Tryz.func20 λs0=>?_
 rw [Tryz.ntmps20]
 refine Y1<|Wa<|Y0<|Y1<|Wm ?_;refine Wq (Af (Bv (-1) (by omega) (by omega))) ?_;refine Wm ?_;refine Wq (Af (IU (-1:Int) Q 1 M h1 hQ hQi (by omega) (by omega))) ?_;refine Wq (Af (MT P (Eu (-1:Int) Q) N (1+M) hP (XS h1 hQ) (by omega) (by omega))) ?_;refine Wa<|Y0<|At ?_
 exact Yf
theorem Canon.nil:Canon []:=⟨List.Pairwise.nil,λt h=>by cases h⟩
theorem JI{t:Tm}(h:t.c≠0):Canon [t]:=⟨List.pairwise_singleton _ _,λu hu=>by rw [List.mem_singleton.1 hu];exact h⟩
theorem Jr{N M:Nat}:∀{P Q:List Tm},PSz P N->PSz Q M->PSz (CV P Q) (N+M+1)
 | [],Q,_,h=>by simp only [CV];exact h.mono (by omega)
 | s::P,[],h,_=>by simp only [CV];exact h.mono (by omega)
 | s::P,t::Q,hP,hQ=>by
  have hP':PSz P N:=λu hu=>hP u (by simp [hu])
  have hQ':PSz Q M:=λu hu=>hQ u (by simp [hu])
  have con:∀{x:Tm} {L:List Tm},RSz x.c (N+M+1)->PSz L (N+M+1)->PSz (x::L) (N+M+1):=λh1 h2 u hu=>by
   rcases List.mem_cons.1 hu with rfl | hu
   .exact h1
   .exact h2 u hu
  rw [CV]
  split
  .exact con ((hP s (by simp)).mono (by omega)) (Jr hP' hQ)
  .split
   .exact con ((hQ t (by simp)).mono (by omega)) (Jr hP hQ')
   .split
    .exact Jr hP' hQ'
    .exact con ((hP s (by simp)).add (hQ t (by simp))) (Jr hP' hQ')
termination_by P Q=>P.length+Q.length
theorem A0I{P Q:List Tm}{a b:Int}(hP:PIn P a b)(hQ:PIn Q a b):PIn (CV P Q) a b:=λu hu=>by
 rcases Fb P Q u hu with ⟨s,hs,e⟩ | ⟨s,hs,e⟩
 .rw [<-e];exact hP s hs
 .rw [<-e];exact hQ s hs
theorem SameL.symm:∀{P Q:List Tm},SameL P Q->SameL Q P
 | [],[],_=>trivial
 | _::_,_::_,h=>⟨h.1.symm,h.2.1.symm,SameL.symm h.2.2⟩
 | [],_::_,h=>h.elim
 | _::_,[],h=>h.elim
structure PB(P:List Tm)(n N:Nat)(d:Int):Prop where
 can:Canon P
 len:P.length<=n
 sz:PSz P N
 ex:PIn P 0 d
theorem PB.mono{P:List Tm}{n N n' N':Nat}{d d':Int}(h:PB P n N d)(h1:n<=n')(h2:N<=N')(h3:d<=d'):PB P n' N' d':=⟨h.can,Nat.le_trans h.len h1,h.sz.mono h2,h.ex.mono (Int.le_refl _) h3⟩
theorem PB.nil{n N:Nat}{d:Int}:PB [] n N d:=⟨Canon.nil,Nat.zero_le _,λt h=>(by cases h),λt h=>(by cases h)⟩
theorem PB.add{P Q:List Tm}{n N n' N':Nat}{d d':Int}(h:PB P n N d)(k:PB Q n' N' d'):PB (CV P Q) (n+n') (N+N'+1) (max d d'):=
 ⟨Ey h.can k.can,by have:=GM P Q;have:=h.len;have:=k.len;omega,Jr h.sz k.sz,A0I (h.ex.mono (Int.le_refl _) (by omega)) (k.ex.mono (Int.le_refl _) (by omega))⟩
def neg(P:List Tm):List Tm:=P.map (fT λq=>-q)
theorem UG{f:Tm->Tm}{P:List Tm}(h:ZX P)(hf:∀s∈P,∀t∈P,0<lx s.m t.m->0<lx (f s).m (f t).m):ZX (P.map f):=by
 refine List.pairwise_map.2 (List.Pairwise.imp_of_mem (λ{a b} ha hb hab=>hf a ha b hb hab) h)
theorem VA{P:List Tm}(h:Canon P):Canon (neg P):=⟨UG h.1 λ_ _ _ _ h=>h,λt ht=>by
 obtain ⟨s,hs,rfl⟩:=List.mem_map.1 ht
 intro e
 have e:-s.c=0:=e
 exact h.2 s hs (by grind)⟩
theorem PB.neg {P : List Tm} {n N : Nat} {d : Int} (h : PB P n N d) : PB (neg P) n N d := ⟨VA h.can, by rw [Go.Proofs.YtnbfnoebjjdmnaaGreat.neg, List.length_map]; exact h.len, fun t ht => by
 obtain ⟨s,hs,rfl⟩:=List.mem_map.1 ht
 exact (h.sz s hs).neg,λt ht=>by
 obtain ⟨s,hs,rfl⟩:=List.mem_map.1 ht
 exact h.ex s hs⟩
theorem Uu(f:(Nat->Int)->Rat):∀P:List Tm,Dl f (neg P) = -Dl f P
 | []=>by simp [neg,Dl]
 | t::P=>by
  have:=Uu f P
  simp only [neg,List.map_cons,Dl,fT] at this ⊢
  rw [this];grind
def A1Z(P Q:List Tm):List Tm:=CV P (neg Q)
theorem PB.sub{P Q:List Tm}{n N n' N':Nat}{d d':Int}(h:PB P n N d)(k:PB Q n' N' d'):PB (A1Z P Q) (n+n') (N+N'+1) (max d d'):=h.add k.neg
theorem SA{a b:Rat}(ha:a≠0)(hb:b≠0):a*b≠0:=λe=>by
 rcases Rat.mul_eq_zero.1 e with h | h
 .exact ha h
 .exact hb h
theorem Ve{c:Rat}{m:Nat->Int}{P:List Tm}(hc:c≠0)(h:Canon P):Canon (Nr c m P):=⟨UG h.1 λs _ t _ h=>by
 show 0<lx (Ba m s.m) (Ba m t.m)
 rwa [Og m,Og m,A2a],λt ht=>by
 obtain ⟨s,hs,rfl⟩:=List.mem_map.1 ht
 exact SA hc (h.2 s hs)⟩
theorem Ll{a b:Nat->Int}{d e:Int}(ha:In8 a 0 d)(hb:In8 b 0 e):In8 (Ba a b) 0 (d+e):=λi hi=>by
 have:=ha i hi
 have:=hb i hi
 simp only [Ba]
 omega
theorem Sk{t:Tm}{P:List Tm}{n N N0:Nat}{d d0:Int}(h:PB P n N d)(hc:t.c≠0)(hs:RSz t.c N0)(hm:In8 t.m 0 d0):PB (Nr t.c t.m P) n (N0+N) (d0+d):=
 ⟨Ve hc h.can, by rw [Sl]; exact h.len, TT hs h.sz, fun u hu => by
  obtain ⟨s,hs,rfl⟩:=List.mem_map.1 hu
  exact Ll hm (h.ex s hs)⟩
def Ip(A P Q:List Tm):List Tm:=P.foldl (λa s=>CV a (Nr s.c s.m Q)) A
def Fz(P Q:List Tm):List Tm:=Ip [] P Q
theorem Ma{Q:List Tm}{n' N' N:Nat}{d d':Int}(hQ:PB Q n' N' d'):∀{P A:List Tm} {k K:Nat},(∀t∈P,t.c≠0)->PSz P N->PIn P 0 d->PB A k K (d+d')->PB (Ip A P Q) (k+P.length*n') (K+P.length*(N+N'+1)) (d+d')
 | [],A,k,K,_,_,_,h=>by simpa [Ip] using h
 | t::P,A,k,K,h1,h2,h3,h=>by
  have ht:=Sk (t:=t) (d0:=d) hQ (h1 t (by simp)) (h2 t (by simp)) (h3 t (by simp))
  have h4:PB (CV A (Nr t.c t.m Q)) (k+n') (K+(N+N'+1)) (d+d'):=(h.add ht).mono (Nat.le_refl _) (by omega) (by omega)
  have:=Ma hQ (P:=P) (λu hu=>h1 u (by simp [hu])) (λu hu=>h2 u (by simp [hu])) (λu hu=>h3 u (by simp [hu])) h4
  refine this.mono ?_ ?_ (Int.le_refl _)
  .rw [List.length_cons,Nat.succ_mul];omega
  .rw [List.length_cons,Nat.succ_mul];omega
theorem NO{Q:List Tm}:∀{P A:List Tm},Sim (Ip A P Q) (A++Hk P Q)
 | [],A=>by simp only [Ip,Hk,List.foldl_nil,List.flatMap_nil,List.append_nil];exact Sim.refl _
 | t::P,A=>by
  refine (NO (P:=P) (A:=CV A (Nr t.c t.m Q))).trans ?_
  refine ((GL _ _).append (Sim.refl _)).trans ?_
  simp only [Hk,List.flatMap_cons,Nr,List.append_assoc]
  exact Sim.refl _
theorem LV(P Q:List Tm):Sim (Fz P Q) (Hk P Q):=NO
theorem PB.mul{P Q:List Tm}{n N n' N':Nat}{d d':Int}(h:PB P n N d)(k:PB Q n' N' d')(h0:0<=d)(h0':0<=d'):PB (Fz P Q) (n*n') (n*(N+N'+1)) (d+d'):=by
 have:=Ma (A:=[]) (k:=0) (K:=0) (d:=d) k h.can.2 h.sz h.ex PB.nil
 refine this.mono ?_ ?_ (Int.le_refl _)
 .rw [Nat.zero_add];exact Nat.mul_le_mul_right _ h.len
 .rw [Nat.zero_add];exact Nat.mul_le_mul_right _ h.len
theorem QF{P Q:List Tm}(hP:Canon P)(hQ:Canon Q)(h:Sim P Q):Bp P=Bp Q:=Vw (Ff hP hQ h)
theorem PB.same{P Q:List Tm}{n N:Nat}{d:Int}(h:PB P n N d)(hs:SameL P Q):PB Q n N d:=by
 have key:∀{P Q:List Tm},SameL P Q->∀t∈Q,∃s∈P,s.c=t.c/\Eqv s.m t.m:=by
  intro P
  induction P with
  | nil=>intro Q h t ht;cases Q with
   | nil=>cases ht
   | cons=>exact h.elim
  | cons s P ih=>intro Q h t ht;cases Q with
   | nil=>exact h.elim
   | cons u Q=>
    rcases List.mem_cons.1 ht with rfl | ht
    .exact ⟨s,by simp,h.1,h.2.1⟩
    .obtain ⟨x,hx,e⟩:=ih h.2.2 t ht
     exact ⟨x,by simp [hx],e⟩
 have dec:∀{P Q:List Tm},SameL P Q->ZX P->ZX Q:=by
  intro P
  induction P with
  | nil=>intro Q h _;cases Q with
   | nil=>exact List.Pairwise.nil
   | cons=>exact h.elim
  | cons s P ih=>intro Q h hd;cases Q with
   | nil=>exact h.elim
   | cons u Q=>
    have hd:=List.pairwise_cons.1 hd
    refine List.pairwise_cons.2 ⟨λt ht=>?_,ih h.2.2 hd.2⟩
    obtain ⟨x,hx,_,e⟩:=key h.2.2 t ht
    rw [<-QT h.2.1 e]
    exact hd.1 x hx
 refine ⟨⟨dec hs h.can.1,λt ht=>?_⟩,by rw [<-hs.length];exact h.len,λt ht=>?_,λt ht=>?_⟩
 .obtain ⟨s,hs,e,_⟩:=key hs t ht
  rw [<-e];exact h.can.2 s hs
 .obtain ⟨s,hs,e,_⟩:=key hs t ht
  rw [<-e];exact h.sz s hs
 .obtain ⟨s,hs,_,e⟩:=key hs t ht
  intro i hi
  rw [<-e i hi];exact h.ex s hs i hi
theorem Ob{c:Rat}{N:Nat}(h:RSz c N){d:Int}(hd:0<=d):PB (Dm c) 1 N d:=by
 unfold Dm
 split
 .exact PB.nil
 .rename_i hc
  refine ⟨JI hc,by simp,λt ht=>by rw [List.mem_singleton.1 ht];exact h,λt ht=>by rw [List.mem_singleton.1 ht];exact λi hi=>⟨Int.le_refl _,hd⟩⟩
theorem GH{t:Tm}{N:Nat}{d:Int}(h:t.c≠0)(hs:RSz t.c N)(hm:In8 t.m 0 d):PB [t] 1 N d:=⟨JI h,by simp,λu hu=>by rw [List.mem_singleton.1 hu];exact hs,λu hu=>by rw [List.mem_singleton.1 hu];exact hm⟩
theorem Hm{i:Nat}:In8 (Gm i) 0 1:=λj _=>by
 unfold Gm Su
 split
 .omega
 .exact ⟨Int.le_refl _,(by show (0:Int)<=1;omega)⟩
end Go.Proofs.YtnbfnoebjjdmnaaGreat
