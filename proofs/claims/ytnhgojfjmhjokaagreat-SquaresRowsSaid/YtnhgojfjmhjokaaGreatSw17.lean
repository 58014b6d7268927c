/- Part 17 of the proof of squaresRows_holds. No condition. -/
import Derived.Test.YtnhgojfjmhjokaaGreatSw2
import Derived.Test.YtnhgojfjmhjokaaGreatSw3
import Derived.Test.YtnhgojfjmhjokaaGreatSw9
import Derived.Test.YtnhgojfjmhjokaaGreatSw14
import Derived.Test.YtnhgojfjmhjokaaGreatSw15
import Derived.Test.YtnhgojfjmhjokaaGreatSw16
set_option linter.unusedSimpArgs false
set_option linter.unusedVariables false
set_option maxRecDepth 100000
set_option maxHeartbeats 1000000
namespace Go.Proofs.YtnhgojfjmhjokaaGreat
open Go.RowKit
theorem AG {P : Program} {f : FuncId} {fn : Func} (hf : P.funcs[f]? = some fn) (hn : (fn.name == "runtime.NumGoroutine") = false) (hb : fn.body.isNone = false) (args : Array Value) (w : World) : (callFunc f args).run P w = .ok (.enter f args) w := by
 have:(program).run P w = .ok P w:=rfl
 have hn' : ¬ fn.name = "runtime.NumGoroutine" := by simpa using hn
 have hb':¬ fn.body = none:=fun e=>by rw [e] at hb;cases hb
 simp [callFunc,this,hf,hn',hb']
theorem Be {P : Program} {f:FuncId} {ds:List D} {r:D} (hcf:∀ args w,(callFunc f args).run P w = .ok (.enter f args) w) (h:∀ (s:GS) (vs:List Value),s.Ok→vs.length = ds.length→(∀ k,k<ds.length→(BP ds k).rel s (vs.getD k undef)) →
  Calls P f vs.toArray s.w fun e w'=>∃ v,e = .returned v∧Ext s.w w'∧∀ s':GS,s'.w = w'→s'.Ok→(∀ b k,s.w.heap.size≤b→b<w'.heap.size→s'.S b k)→GS.Le s s'→r.rel s' v):Abs P f ds r:=by
 refine ⟨hcf,fun s vs hok hl hv=>(h s vs hok hl hv).mono fun e w' ⟨v,he,hE,hr⟩=>⟨v,he,s.grown w',rfl,FU hE,?_⟩⟩
 exact hr _ rfl ((FU hE).ok hok) (fun b k h1 h2=>.inr ⟨h1,h2⟩) (FU hE)
theorem YB {vs : List Value} (h:vs.length = 1):vs = [vs.getD 0 undef]:=by
 match vs,h with
 | [a],_=>rfl
theorem MD {vs : List Value} (h:vs.length = 2):vs = [vs.getD 0 undef,vs.getD 1 undef]:=by
 match vs,h with
 | [a,b],_=>rfl
def wD (l : List Nat):D:=⟨fun s v=>(slD 139 1 (l.map fun x=>[ex (.int .u32 (x:Nat))])).rel s v∧Bg l,fun h hc=>⟨(slD _ _ _).st h.1 hc,h.2⟩⟩
theorem Ef {s : GS} {v:Value} {l:List Nat} (h:(wD l).rel s v):Words s.w v l:=by
 obtain ⟨⟨A,c,h1,h2,h3,h4⟩,hs⟩:=h
 simp only [List.length_map] at h1 h2 h4
 refine ⟨A,c,h1,h2,h3,hs,fun h0=>?_⟩
 obtain ⟨b,o,h5,h6⟩:=h4 h0
 obtain ⟨_,cs,fz,h7,h8⟩:=h6 0 h0
 refine ⟨b,o,cs,fz,h5,h7,fun i hi=>?_⟩
 obtain ⟨h9,cs',fz',h10,h11⟩:=h6 i hi
 rw [h7] at h10
 cases h10
 obtain ⟨_,u,h12,_,h13⟩:=h11 0 (by rw [h9];omega)
 have e:BP ((l.map fun x=>[ex (.int .u32 (x:Nat))]).getD i []) 0 = ex (.int .u32 (l[i]:Nat)):=by simp [BP,hi]
 rw [e] at h13
 have h13:u = _:=h13
 rw [Nat.mul_one,Nat.add_zero] at h12
 rw [h12,h13]
theorem Hm {s : GS} {v:Value} {l:List Nat} (hok:s.Ok) (h:Words s.w v l):(wD l).rel s v:=by
 obtain ⟨A,c,h1,h2,h3,hs,h4⟩:=h
 refine ⟨⟨A,c,by rw [List.length_map];exact h1,by rw [List.length_map];exact h2,h3,fun h0=>?_⟩,hs⟩
 rw [List.length_map] at h0
 obtain ⟨b,o,cs,fz,h5,h6,h7⟩:=h4 h0
 refine ⟨b,o,h5,fun k hk=>?_⟩
 rw [List.length_map] at hk
 have e:(l.map fun x=>[ex (.int .u32 (x:Nat))]).getD k [] = [ex (.int .u32 (l[k]:Nat))]:=by simp [hk]
 rw [e]
 refine ⟨rfl,cs,fz,h6,fun j hj=>?_⟩
 obtain rfl:j = 0:=by simp at hj;omega
 rw [Nat.mul_one,Nat.add_zero]
 exact ⟨hok.safe b _ ⟨cs,fz,h6⟩,_,h7 k hk,rfl,rfl⟩
def DF (z : Int):List D:=[ex (.bool (decide (z<0))),wD (Ah z.natAbs)]
def BH (q : Rat):List D:=[ex (.bool (decide (q.num<0))),wD (Ah q.num.natAbs),ex (.bool (decide ((q.den:Int)<0))),wD (Ah (q.den:Int).natAbs)]
theorem IU {s : GS} {v:Value} {l:List Nat} (h:(wD l).rel s v):∃ A n c,v = .slice A n c:=by
 obtain ⟨A,c,h1,_⟩:=h.1
 exact ⟨A,_,c,h1⟩
theorem ag2 {s : GS} {v:Value} {d0 d1:D} (h:(BF [d0,d1]).rel s v):∃ u0 u1,v = .agg #[u0,u1]∧d0.rel s u0∧d1.rel s u1:=by
 obtain ⟨cs,rfl,h1,h2⟩:=h
 obtain ⟨u0,e0,_,r0⟩:=h2 0 (by simp)
 obtain ⟨u1,e1,_,r1⟩:=h2 1 (by simp)
 refine ⟨u0,u1,?_,r0,r1⟩
 congr 1
 refine Array.ext (by simpa using h1) fun i q1 q2=>?_
 simp at q2
 match i,q2 with
 | 0,_=>exact Option.some.inj ((Array.getElem?_eq_getElem q1).symm.trans e0)
 | 1,_=>exact Option.some.inj ((Array.getElem?_eq_getElem q1).symm.trans e1)
theorem ag4 {s : GS} {v:Value} {d0 d1 d2 d3:D} (h:(BF [d0,d1,d2,d3]).rel s v):∃ u0 u1 u2 u3,v = .agg #[u0,u1,u2,u3]∧d0.rel s u0∧d1.rel s u1∧d2.rel s u2∧d3.rel s u3:=by
 obtain ⟨cs,rfl,h1,h2⟩:=h
 obtain ⟨u0,e0,_,r0⟩:=h2 0 (by simp)
 obtain ⟨u1,e1,_,r1⟩:=h2 1 (by simp)
 obtain ⟨u2,e2,_,r2⟩:=h2 2 (by simp)
 obtain ⟨u3,e3,_,r3⟩:=h2 3 (by simp)
 refine ⟨u0,u1,u2,u3,?_,r0,r1,r2,r3⟩
 congr 1
 refine Array.ext (by simpa using h1) fun i q1 q2=>?_
 simp at q2
 match i,q2 with
 | 0,_=>exact Option.some.inj ((Array.getElem?_eq_getElem q1).symm.trans e0)
 | 1,_=>exact Option.some.inj ((Array.getElem?_eq_getElem q1).symm.trans e1)
 | 2,_=>exact Option.some.inj ((Array.getElem?_eq_getElem q1).symm.trans e2)
 | 3,_=>exact Option.some.inj ((Array.getElem?_eq_getElem q1).symm.trans e3)
theorem A1l {s : GS} {v:Value} {l:List Value} (h:(BF (l.map ex)).rel s v):v = .agg l.toArray:=by
 obtain ⟨cs,rfl,h1,h2⟩:=h
 congr 1
 refine Array.ext (by simpa using h1) fun i q1 q2=>?_
 simp at q2
 obtain ⟨u,e,_,r⟩:=h2 i (by simpa using q2)
 have e2:BP (l.map ex) i = ex l[i]:=by simp [BP,q2]
 rw [e2] at r
 have r:u = l[i]:=r
 rw [Array.getElem?_eq_getElem q1] at e
 rw [Option.some.inj e,r]
 simp
theorem A1i {s : GS} {l:List Value} (h:Gd l = true):(BF (l.map ex)).rel s (.agg l.toArray):=by
 refine ⟨_,rfl,by simp,fun k hk=>?_⟩
 simp at hk
 refine ⟨l[k],by simp [hk],List.all_eq_true.1 h _ (by simp),?_⟩
 have e2:BP (l.map ex) k = ex l[k]:=by simp [BP,hk]
 rw [e2]
 rfl
theorem Cl {s : GS} {v:Value} {q:Rat} (h:(BF (BH q)).rel s v):∃ (b b':Bool) (A A':Option Addr) (n c n' c':Nat),v = .agg #[.bool b,.slice A n c,.bool b',.slice A' n' c']∧IsRat s.w (.bool b) (.slice A n c) (.bool b') (.slice A' n' c') q:=by
 obtain ⟨u0,u1,u2,u3,rfl,h0,h1,h2,h3⟩:=ag4 h
 obtain rfl:u0 = _:=h0
 obtain rfl:u2 = _:=h2
 obtain ⟨A,n,c,rfl⟩:=IU h1
 obtain ⟨A',n',c',rfl⟩:=IU h3
 exact ⟨_,_,A,A',n,c,n',c',rfl,⟨rfl,Ef h1⟩,⟨rfl,Ef h3⟩⟩
theorem FP {s : GS} {q:Rat} {b b':Bool} {A A':Option Addr} {n c n' c':Nat} (hok:s.Ok) (h:IsRat s.w (.bool b) (.slice A n c) (.bool b') (.slice A' n' c') q):(BF (BH q)).rel s (.agg #[.bool b,.slice A n c,.bool b',.slice A' n' c']):=by
 obtain ⟨⟨h1,h2⟩,h3,h4⟩:=h
 refine ⟨_,rfl,rfl,fun k hk=>?_⟩
 have hk:k<4:=hk
 match k,hk with
 | 0,_=>exact ⟨_,rfl,rfl,h1⟩
 | 1,_=>exact ⟨_,rfl,rfl,Hm hok h2⟩
 | 2,_=>exact ⟨_,rfl,rfl,h3⟩
 | 3,_=>exact ⟨_,rfl,rfl,Hm hok h4⟩
theorem Cs {s : GS} {v:Value} {z:Int} (h:(BF (DF z)).rel s v):∃ (b:Bool) (A:Option Addr) (n c:Nat),v = .agg #[.bool b,.slice A n c]∧IsInt s.w (.bool b) (.slice A n c) z:=by
 obtain ⟨u0,u1,rfl,h0,h1⟩:=ag2 h
 obtain rfl:u0 = _:=h0
 obtain ⟨A,n,c,rfl⟩:=IU h1
 exact ⟨_,A,n,c,rfl,rfl,Ef h1⟩
theorem GN {s : GS} {z:Int} {b:Bool} {A:Option Addr} {n c:Nat} (hok:s.Ok) (h:IsInt s.w (.bool b) (.slice A n c) z):(BF (DF z)).rel s (.agg #[.bool b,.slice A n c]):=by
 obtain ⟨h1,h2⟩:=h
 refine ⟨_,rfl,rfl,fun k hk=>?_⟩
 have hk:k<2:=hk
 match k,hk with
 | 0,_=>exact ⟨_,rfl,rfl,h1⟩
 | 1,_=>exact ⟨_,rfl,rfl,Hm hok h2⟩
def Cd (a : Nat→Int):List D:=[ex (.int .i64 (a 0)),ex (.int .i64 (a 1)),ex (.int .i64 (a 2)),ex (.int .i64 (a 3)),ex (.int .i64 (a 4)),ex (.int .i64 (a 5)),ex (.int .i64 (a 6)),ex (.int .i64 (a 7))]
theorem DX {s : GS} {v:Value} {a:Nat→Int} (h:(BF (Cd a)).rel s v):v = .agg (c8 a):=A1l (l:=(c8 a).toList) h
theorem YY {s : GS} (a:Nat→Int):(BF (Cd a)).rel s (.agg (c8 a)):=A1i (l:=(c8 a).toList) rfl
theorem Ox {a : Nat→Int} {i:Nat} (h:i<8):BP (Cd a) i = ex (.int .i64 (a i)):=by
 match i,h with
 | 0,_=>rfl
 | 1,_=>rfl
 | 2,_=>rfl
 | 3,_=>rfl
 | 4,_=>rfl
 | 5,_=>rfl
 | 6,_=>rfl
 | 7,_=>rfl
def Iy (t : Tm):List D:=BH t.c ++ Cd t.m
theorem Dy (q : Rat):(BH q).length = 4:=rfl
theorem PZ (a : Nat→Int):(Cd a).length = 8:=rfl
theorem Ix (t : Tm):(Iy t).length = 12:=rfl
theorem We (t : Tm):(Iy t).drop 4 = Cd t.m:=rfl
theorem TU {s : GS} {cs:Array Value} {t:Tm} (hok:s.Ok) (h:TmV s.w cs t):∀ k,k<12→∃ u,cs[k]? = some u∧u.oneCell' = true∧(BP (Iy t) k).rel s u:=by
 obtain ⟨b,b',A,A',n,c,n',c',rfl,⟨h1,h2⟩,h3,h4⟩:=h
 intro k hk
 match k,hk with
 | 0,_=>exact ⟨_,rfl,rfl,h1⟩
 | 1,_=>exact ⟨_,rfl,rfl,Hm hok h2⟩
 | 2,_=>exact ⟨_,rfl,rfl,h3⟩
 | 3,_=>exact ⟨_,rfl,rfl,Hm hok h4⟩
 | 4,_=>exact ⟨_,rfl,rfl,rfl⟩
 | 5,_=>exact ⟨_,rfl,rfl,rfl⟩
 | 6,_=>exact ⟨_,rfl,rfl,rfl⟩
 | 7,_=>exact ⟨_,rfl,rfl,rfl⟩
 | 8,_=>exact ⟨_,rfl,rfl,rfl⟩
 | 9,_=>exact ⟨_,rfl,rfl,rfl⟩
 | 10,_=>exact ⟨_,rfl,rfl,rfl⟩
 | 11,_=>exact ⟨_,rfl,rfl,rfl⟩
theorem Vi {s : GS} {cs:Array Value} {t:Tm} (hsz:cs.size = 12) (h:∀ k,k<12→∃ u,cs[k]? = some u∧u.oneCell' = true∧(BP (Iy t) k).rel s u):TmV s.w cs t:=by
 obtain ⟨u0,e0,_,r0⟩:=h 0 (by omega)
 obtain ⟨u1,e1,_,r1⟩:=h 1 (by omega)
 obtain ⟨u2,e2,_,r2⟩:=h 2 (by omega)
 obtain ⟨u3,e3,_,r3⟩:=h 3 (by omega)
 obtain rfl:u0 = _:=r0
 obtain rfl:u2 = _:=r2
 obtain ⟨A,n,c,rfl⟩:=IU r1
 obtain ⟨A',n',c',rfl⟩:=IU r3
 have hm:∀ i,i<8→cs[4+i]? = some (.int .i64 (t.m i)):=fun i hi=>by
  obtain ⟨u,e,_,r⟩:=h (4+i) (by omega)
  have e2:BP (Iy t) (4+i) = ex (.int .i64 (t.m i)):=by rw [← Ox hi,← We,Mc]
  rw [e2] at r
  rw [e]
  exact congrArg some r
 refine ⟨_,_,A,A',n,c,n',c',?_,⟨rfl,Ef r1⟩,rfl,Ef r3⟩
 refine Array.ext (by rw [hsz];rfl) fun i q1 q2=>?_
 rw [hsz] at q1
 refine Option.some.inj ?_
 rw [← Array.getElem?_eq_getElem,← Array.getElem?_eq_getElem]
 match i,q1 with
 | 0,_=>exact e0
 | 1,_=>exact e1
 | 2,_=>exact e2
 | 3,_=>exact e3
 | 4,_=>exact hm 0 (by omega)
 | 5,_=>exact hm 1 (by omega)
 | 6,_=>exact hm 2 (by omega)
 | 7,_=>exact hm 3 (by omega)
 | 8,_=>exact hm 4 (by omega)
 | 9,_=>exact hm 5 (by omega)
 | 10,_=>exact hm 6 (by omega)
 | 11,_=>exact hm 7 (by omega)
def Bi (P : List Tm):D:=slD 72 12 (P.map Iy)
theorem PQ {P : List Tm} {k:Nat} (h:k<P.length):(P.map Iy).getD k [] = Iy (AQ P k):=by simp [AQ,List.getD_eq_getElem?_getD,List.getElem?_eq_getElem h]
theorem HY {s : GS} {v:Value} {P:List Tm} (h:(Bi P).rel s v):PolAt s.w v P:=by
 obtain ⟨A,c,h1,h2,h3,h4⟩:=h
 simp only [List.length_map] at h1 h2 h4
 refine ⟨A,c,h1,h2,h3,fun h0=>?_⟩
 obtain ⟨b,o,h5,h6⟩:=h4 h0
 obtain ⟨_,cs,fz,h7,h8⟩:=h6 0 h0
 refine ⟨b,o,cs,fz,h5,h7,fun k hk=>?_⟩
 obtain ⟨h9,cs',fz',h10,h11⟩:=h6 k hk
 rw [h7] at h10
 cases h10
 rw [PQ hk] at h11
 refine ⟨cs.extract (o+k*12) (o+k*12+12),Vi (s:=s) ?_ fun j hj=>?_,fun j hj=>?_⟩
 ·obtain ⟨_, u, e, _⟩ := h11 11 (by simp [Ix])
  have:=(Array.getElem?_eq_some_iff.1 e).1
  simp
  omega
 ·obtain ⟨_,u,e,r1,r2⟩:=h11 j hj
  exact ⟨u,by rw [Array.getElem?_extract,if_pos (by have:=(Array.getElem?_eq_some_iff.1 e).1;obtain ⟨_,u',e',_⟩:=h11 11 (by simp [Ix]);have:=(Array.getElem?_eq_some_iff.1 e').1;omega)];exact e,r1,r2⟩
 ·obtain ⟨_, u', e', _⟩ := h11 11 (by simp [Ix])
  have:=(Array.getElem?_eq_some_iff.1 e').1
  rw [Array.getElem?_extract,if_pos (by omega)]
theorem YP {s : GS} {v:Value} {P:List Tm} (hok:s.Ok) (h:PolAt s.w v P) (hS:∀ b o,v = v→(∃ n c,v = .slice (some ⟨b,o,none⟩) n c)→∀ k,s.S b k):(Bi P).rel s v:=by
 obtain ⟨A,c,h1,h2,h3,h4⟩:=h
 refine ⟨A,c,by rw [List.length_map];exact h1,by rw [List.length_map];exact h2,h3,fun h0=>?_⟩
 rw [List.length_map] at h0
 obtain ⟨b,o,cs,fz,h5,h6,h7⟩:=h4 h0
 subst h5
 refine ⟨b,o,rfl,fun k hk=>?_⟩
 rw [List.length_map] at hk
 rw [PQ hk]
 refine ⟨rfl,cs,fz,h6,fun j hj=>⟨hS b o rfl ⟨_,_,h1⟩ _,?_⟩⟩
 obtain ⟨ts,h8,h9⟩:=h7 k hk
 obtain ⟨u,h10,h11,h12⟩:=TU hok h8 j hj
 exact ⟨u,(h9 j hj).trans h10,h11,h12⟩
theorem WO {w' : World} {v:Value} {P:List Tm} {W:Nat} (h:OwnP W w' v P) {s':GS} (hw:s'.w = w') (hok:s'.Ok) (hS:∀ b k,W≤b→b<w'.heap.size→s'.S b k):(Bi P).rel s' v:=by
 subst hw
 refine YP hok h.pol fun b o _ ⟨n,c,hv⟩ k=>?_
 obtain ⟨cl,h1,⟨h2,h3⟩,h4⟩:=h
 rcases h3 with ⟨e,_⟩ | ⟨g,cap,cur,e,h5,h6,_⟩
 ·rw [e] at hv;cases hv
 ·rw [e] at hv
  cases hv
  exact hS _ k h5 (AO h6)
theorem Xb {a b:Nat→Int} (h:Eqv a b):Cd a = Cd b:=by unfold Cd;rw [h 0 (by omega),h 1 (by omega),h 2 (by omega),h 3 (by omega),h 4 (by omega),h 5 (by omega),h 6 (by omega),h 7 (by omega)]
theorem A08 {s t:Tm} (h:s.c = t.c) (h':Eqv s.m t.m):Iy s = Iy t:=by unfold Iy;rw [h,Xb h']
theorem Um {P Q:List Tm} (h:SameL P Q):Bi P = Bi Q:=by
 unfold Bi
 congr 1
 induction P generalizing Q with
 | nil=>cases Q with
  | nil=>rfl
  | cons=>exact h.elim
 | cons s P ih=>cases Q with
  | nil=>exact h.elim
  | cons t Q=>rw [List.map_cons,List.map_cons,A08 h.1 h.2.1,ih h.2.2]
theorem A06 {s : GS} {u v:Value} {x y:D} (hx:x.rel s u) (hy:y.rel s v):(Da [x,y]).rel s (.tuple #[u,v]):=⟨_,rfl,rfl,fun k hk=>by
 match k,hk with
 | 0,_=>exact ⟨_,rfl,hx⟩
 | 1,_=>exact ⟨_,rfl,hy⟩
 | k+2,hk=>exact absurd hk (by simp)⟩
theorem TH (p q:Rat) (N M:Nat) (hp:RSz p N) (hq:RSz q M) (hN:N+M≤4398046511104):Abs Tryz.prog 87 [BF (BH p),BF (BH q)] (BF (BH (p*q))):=by
 refine Be (AG Tryz.func87 (by kernel_rfl) (by kernel_rfl)) fun s vs hok hl hv=>?_
 rw [MD hl]
 obtain ⟨x0,x0',X0,X0',n0,c0,n0',c0',e0,h0⟩:=Cl (hv 0 (by simp))
 obtain ⟨x1,x1',X1,X1',n1,c1,n1',c1',e1,h1⟩:=Cl (hv 1 (by simp))
 rw [e0,e1]
 exact (Pm x0 x0' X0 X0' n0 c0 n0' c0' x1 x1' X1 X1' n1 c1 n1' c1' p q N M _ h0 h1 hp hq hN).mono fun e w' ⟨y,y',Y,Y',m,k,m',k',he,hI,hE⟩=>⟨_,he,hE,fun s' hw hok' _ _=>by subst hw;exact FP hok' hI⟩
theorem ZH (p q:Rat) (N M:Nat) (hp:RSz p N) (hq:RSz q M) (hN:N+M+1≤4398046511104):Abs Tryz.prog 113 [BF (BH p),BF (BH q)] (BF (BH (p+q))):=by
 refine Be (AG Tryz.func113 (by kernel_rfl) (by kernel_rfl)) fun s vs hok hl hv=>?_
 rw [MD hl]
 obtain ⟨x0,x0',X0,X0',n0,c0,n0',c0',e0,h0⟩:=Cl (hv 0 (by simp))
 obtain ⟨x1,x1',X1,X1',n1,c1,n1',c1',e1,h1⟩:=Cl (hv 1 (by simp))
 rw [e0,e1]
 exact (Pr x0 x0' X0 X0' n0 c0 n0' c0' x1 x1' X1 X1' n1 c1 n1' c1' p q N M _ h0 h1 hp hq hN).mono fun e w' ⟨y,y',Y,Y',m,k,m',k',he,hI,hE⟩=>⟨_,he,hE,fun s' hw hok' _ _=>by subst hw;exact FP hok' hI⟩
theorem Ms (p q:Rat) (N M:Nat) (hp:RSz p N) (hq:RSz q M) (hN:N+M≤4398046511103):Abs Tryz.prog 32 [BF (BH p),BF (BH q)] (BF (BH (p*q))):=by
 refine Be (AG Tryz.func32 (by kernel_rfl) (by kernel_rfl)) fun s vs hok hl hv=>?_
 rw [MD hl]
 obtain ⟨x0,x0',X0,X0',n0,c0,n0',c0',e0,h0⟩:=Cl (hv 0 (by simp))
 obtain ⟨x1,x1',X1,X1',n1,c1,n1',c1',e1,h1⟩:=Cl (hv 1 (by simp))
 rw [e0,e1]
 exact (XP x0 x0' X0 X0' n0 c0 n0' c0' x1 x1' X1 X1' n1 c1 n1' c1' p q N M _ h0 h1 hp hq hN).mono fun e w' ⟨y,y',Y,Y',m,k,m',k',he,hI,hE⟩=>⟨_,he,hE,fun s' hw hok' _ _=>by subst hw;exact FP hok' hI⟩
theorem Mu (p q:Rat) (N M:Nat) (hp:RSz p N) (hq:RSz q M) (hN:N+M+1≤4398046511103):Abs Tryz.prog 31 [BF (BH p),BF (BH q)] (BF (BH (p+q))):=by
 refine Be (AG Tryz.func31 (by kernel_rfl) (by kernel_rfl)) fun s vs hok hl hv=>?_
 rw [MD hl]
 obtain ⟨x0,x0',X0,X0',n0,c0,n0',c0',e0,h0⟩:=Cl (hv 0 (by simp))
 obtain ⟨x1,x1',X1,X1',n1,c1,n1',c1',e1,h1⟩:=Cl (hv 1 (by simp))
 rw [e0,e1]
 exact (XR x0 x0' X0 X0' n0 c0 n0' c0' x1 x1' X1 X1' n1 c1 n1' c1' p q N M _ h0 h1 hp hq hN).mono fun e w' ⟨y,y',Y,Y',m,k,m',k',he,hI,hE⟩=>⟨_,he,hE,fun s' hw hok' _ _=>by subst hw;exact FP hok' hI⟩
theorem BR (p : Rat):Abs Tryz.prog 50 [BF (BH p)] (ex (.int .i64 p.num.sign)):=by
 refine Be (AG Tryz.func50 (by kernel_rfl) (by kernel_rfl)) fun s vs hok hl hv=>?_
 rw [YB hl]
 obtain ⟨x0,x0',X0,X0',n0,c0,n0',c0',e0,h0⟩:=Cl (hv 0 (by simp))
 rw [e0]
 exact (Qv x0 x0' X0 X0' n0 c0 n0' c0' p _ h0).mono fun e w' ⟨he,hE⟩=>⟨_,he,hE,fun s' hw hok' _ _=>rfl⟩
theorem Ex (p : Rat):Abs Tryz.prog 23 [BF (BH p)] (ex (.int .i64 p.num.sign)):=by
 refine Be (AG Tryz.func23 (by kernel_rfl) (by kernel_rfl)) fun s vs hok hl hv=>?_
 rw [YB hl]
 obtain ⟨x0,x0',X0,X0',n0,c0,n0',c0',e0,h0⟩:=Cl (hv 0 (by simp))
 rw [e0]
 exact (Vv x0 x0' X0 X0' n0 c0 n0' c0' p _ h0).mono fun e w' ⟨he,hE⟩=>⟨_,he,hE,fun s' hw hok' _ _=>rfl⟩
theorem Bu (z : Int) (h0:-9223372036854775808≤z) (h1:z≤9223372036854775807):Abs Tryz.prog 28 [ex (.int .i64 z)] (BF (BH (z:Rat))):=by
 refine Be (AG Tryz.func28 (by kernel_rfl) (by kernel_rfl)) fun s vs hok hl hv=>?_
 rw [YB hl]
 have e0:vs.getD 0 undef = .int .i64 z:=hv 0 (by simp)
 rw [e0]
 exact (Sd z _ h0 h1).mono fun e w' ⟨y,y',Y,Y',m,k,m',k',he,hI,hE⟩=>⟨_,he,hE,fun s' hw hok' _ _=>by subst hw;exact FP hok' hI⟩
theorem NS (z : Int):Abs Tryz.prog 65 [BF (DF z)] (ex (.int .i64 z.sign)):=by
 refine Be (AG Tryz.func65 (by kernel_rfl) (by kernel_rfl)) fun s vs hok hl hv=>?_
 rw [YB hl]
 obtain ⟨x0,X0,n0,c0,e0,h0⟩:=Cs (hv 0 (by simp))
 rw [e0]
 exact (Ii x0 X0 n0 c0 z _ h0).mono fun e w' ⟨he,hE⟩=>⟨_,he,hE,fun s' hw hok' _ _=>rfl⟩
theorem EN (x y:Int) (hn:(Ah x.natAbs).length≤4398046511104) (hn':(Ah y.natAbs).length≤4398046511104):Abs Tryz.prog 76 [BF (DF x),BF (DF y)] (BF (DF (x*y))):=by
 refine Be (AG Tryz.func76 (by kernel_rfl) (by kernel_rfl)) fun s vs hok hl hv=>?_
 rw [MD hl]
 obtain ⟨x0,X0,n0,c0,e0,h0⟩:=Cs (hv 0 (by simp))
 obtain ⟨x1,X1,n1,c1,e1,h1⟩:=Cs (hv 1 (by simp))
 rw [e0,e1]
 exact (Gz x0 x1 X0 X1 n0 c0 n1 c1 x y _ h0 h1 hn hn').mono fun e w' ⟨y,Y,m,k,he,hI,hE⟩=>⟨_,he,hE,fun s' hw hok' _ _=>by subst hw;exact GN hok' hI⟩
theorem Se (p q:Rat):Abs Tryz.prog 60 [BF (BH p),BF (BH q)] (ex (.bool (decide (p = q)))):=by
 refine Be (AG Tryz.func60 (by kernel_rfl) (by kernel_rfl)) fun s vs hok hl hv=>?_
 rw [MD hl]
 obtain ⟨x0,x0',X0,X0',n0,c0,n0',c0',e0,h0⟩:=Cl (hv 0 (by simp))
 obtain ⟨x1,x1',X1,X1',n1,c1,n1',c1',e1,h1⟩:=Cl (hv 1 (by simp))
 rw [e0,e1]
 exact (Mr x0 x0' X0 X0' n0 c0 n0' c0' x1 x1' X1 X1' n1 c1 n1' c1' p q _ h0 h1).mono fun e w' ⟨he,hE⟩=>⟨_,he,hE,fun s' hw hok' _ _=>rfl⟩
theorem Xi (a b:Nat→Int):Abs Tryz.prog 118 [BF (Cd a),BF (Cd b)] (ex (.int .i64 (Fa a b))):=by
 refine Be (AG Tryz.func118 (by kernel_rfl) (by kernel_rfl)) fun s vs hok hl hv=>?_
 rw [MD hl]
 have e0:=DX (hv 0 (by simp))
 have e1:=DX (hv 1 (by simp))
 rw [e0,e1]
 exact (Xh a b _).mono fun e w' ⟨he,hE⟩=>⟨_,he,hE,fun s' hw hok' _ _=>rfl⟩
theorem DI (a b:Nat→Int):Abs Tryz.prog 70 [BF (Cd a),BF (Cd b)] (ex (.int .i64 (Fa a b))):=by
 refine Be (AG Tryz.func70 (by kernel_rfl) (by kernel_rfl)) fun s vs hok hl hv=>?_
 rw [MD hl]
 have e0:=DX (hv 0 (by simp))
 have e1:=DX (hv 1 (by simp))
 rw [e0,e1]
 exact (Vq a b _).mono fun e w' ⟨he,hE⟩=>⟨_,he,hE,fun s' hw hok' _ _=>rfl⟩
theorem Xf (a b:Nat→Int) (ha:In8 a 0 65535) (hb:In8 b 0 65535) (h:In8 (AU a b) 0 65535):Abs Tryz.prog 85 [BF (Cd a),BF (Cd b)] (Da [BF (Cd (AU a b)),ex (.int .i64 0)]):=by
 refine Be (AG Tryz.func85 (by kernel_rfl) (by kernel_rfl)) fun s vs hok hl hv=>?_
 rw [MD hl]
 have e0:=DX (hv 0 (by simp))
 have e1:=DX (hv 1 (by simp))
 rw [e0,e1]
 exact (Nr a b _ ha hb h).mono fun e w' ⟨he,hE⟩=>⟨_,he,hE,fun s' hw hok' _ _=>A06 (YY _) rfl⟩
theorem Vx (P Q:List Tm):Abs Tryz.prog 11 [Bi P,Bi Q] (ex (.bool (Ne P Q))):=by
 refine Be (AG Tryz.func11 (by kernel_rfl) (by kernel_rfl)) fun s vs hok hl hv=>?_
 rw [MD hl]
 have h0:=HY (hv 0 (by simp))
 have h1:=HY (hv 1 (by simp))
 exact (Vw (vs.getD 0 undef) (vs.getD 1 undef) P Q _ h0 h1).mono fun e w' ⟨he,hE⟩=>⟨_,he,hE,fun s' hw hok' _ _=>rfl⟩
theorem Ya (P Q:List Tm) (N M:Nat) (hP:PSz P N) (hQ:PSz Q M) (p q:Int) (hPi:PIn P 0 p) (hQi:PIn Q 0 q) (hpq:p+q≤65535) (hp0:0≤p) (hq0:0≤q) (hn:P.length*Q.length≤100000) (hNM:N+M+1≤10000000):Abs Tryz.prog 45 [Bi P,Bi Q] (ZW (fun S=>Canon S∧Sim S (Hk P Q)∧PIn S 0 (p+q)∧PSz S (P.length*Q.length*(N+M+1))∧S.length≤P.length*Q.length) fun S=>Da [Bi S,ex (.int .i64 0)]):=by
 refine Be (AG Tryz.func45 (by kernel_rfl) (by kernel_rfl)) fun s vs hok hl hv=>?_
 rw [MD hl]
 have h0:=HY (hv 0 (by simp))
 have h1:=HY (hv 1 (by simp))
 exact (XZ (vs.getD 0 undef) (vs.getD 1 undef) P Q _ h0 h1 N M hP hQ p q hPi hQi hpq hp0 hq0 hn hNM).mono fun e w' ⟨S,g1,g2,g3,g4,g5,A,c,he,hO,hE⟩=>⟨_,he,hE,fun s' hw hok' hS _=>⟨S,⟨g1,g2,g3,g4,g5⟩,A06 (WO hO hw hok' hS) rfl⟩⟩
theorem Zf {l : List D} {k:Nat}:(l.map AV.d)[k]? = if k<l.length then some (.d (BP l k)) else none:=by
 rw [List.getElem?_map]
 split
 ·rename_i h
  simp [BP,h]
 ·rename_i h
  simp [List.getElem?_eq_none (Nat.le_of_not_lt h)]
section
variable {P : Program} {hp:List Ow} {o:Oper} {arg:Operand→AV}
theorem Si {T U:TypeId} {x y:Operand} {a:Nat} (hop:o.op = .binOp .add T x y U) (hx:arg x = .d (ex (.int .i64 (a:Nat)))) (hy:arg y = .d (ex (.int .i64 1))) (h1:(a:Int)<9223372036854775807):Quiet P hp o arg (.d (ex (.int .i64 ((a+1:Nat):Int)))) :=
 Quiet.add hop hx hy (by omega) (by omega)
theorem Quiet.quo {T U:TypeId} {x y:Operand} {a b:Int} (hop:o.op = .binOp .quo T x y U) (hx:arg x = .d (ex (.int .i64 a))) (hy:arg y = .d (ex (.int .i64 b))) (h0:0≤a) (h1:a≤9223372036854775807) (hb:0<b):Quiet P hp o arg (.d (ex (.int .i64 (a / b)))) :=
 Ey hop hx hy fun w=>by
  have h2:a / b≤a:=Int.ediv_le_self b h0
  have h3:0≤a / b:=Int.ediv_nonneg h0 (by omega)
  have h4:a.tdiv b = a / b:=Int.tdiv_eq_ediv_of_nonneg h0
  have e:IntKind.i64.wrap (a / b) = a / b:=IntWalk.i64_in _ (by omega)
  have hne:b ≠ 0:=by omega
  simp [eqGuard,binOp,Op.intDiv,hne,h4,e]
theorem Quiet.rem {T U:TypeId} {x y:Operand} {k:IntKind} {a b:Int} (hop:o.op = .binOp .rem T x y U) (hx:arg x = .d (ex (.int k a))) (hy:arg y = .d (ex (.int k b))) (h0:0≤a) (hb:0<b):Quiet P hp o arg (.d (ex (.int k (a % b)))) :=
 Ey hop hx hy fun w=>by
  have h4:a.tmod b = a % b:=Int.tmod_eq_emod_of_nonneg h0
  have hne:b ≠ 0:=by omega
  simp [eqGuard,binOp,Op.intDiv,hne,h4]
theorem Sj {T U:TypeId} {x y:Operand} {k:IntKind} {a b:Int} (hop:o.op = .binOp .rem T x y U) (hx:arg x = .d (ex (.int k a))) (hy:arg y = .d (ex (.int k b))) (hb:b ≠ 0):Quiet P hp o arg (.d (ex (.int k (a.tmod b)))) :=
 Ey hop hx hy fun w=>by simp [eqGuard,binOp,Op.intDiv,hb]
theorem Quiet.max {x y:Operand} {tys:Array TypeId} {k:IntKind} {a b:Int} (hop:o.op = .call { callee:=.builtin .max,args:=#[x,y],argTypes:=tys }) (hx:arg x = .d (ex (.int k a))) (hy:arg y = .d (ex (.int k b))):Quiet P hp o arg (.d (ex (.int k (Max.max a b)))):=by
 refine ⟨fun base s ρ ev hok hbs hhp h=>?_⟩
 have h1:=h x (by rw [hop];simp [Op.operands,Call.operands])
 have h2:=h y (by rw [hop];simp [Op.operands,Call.operands])
 rw [hx] at h1;rw [hy] at h2
 have e1:ev x = .int k a:=h1
 have e2:ev y = .int k b:=h2
 refine BM (v:=.int k (Max.max a b)) ?_ ⟨GS.Le.refl s,rfl⟩
 have e3:(if b > a then b else a) = Max.max a b:=by
  rw [Int.max_def]
  by_cases h:a≤b
  ·rw [if_pos h];split <;> omega
  ·rw [if_neg h,if_neg (by omega)]
 simp only [execOp,hop,resolve,invoke,builtin,Sem.run_bind,Sem.run_pure,Result.andThen_ok,List.map_toArray,List.map_cons,List.map_nil,e1,e2,Builtin.max_,List.foldlM_cons,List.foldlM_nil,Builtin.max2,e3]
theorem Pb {α : Type} [Inhabited α] {x y:Operand} {t:TypeId} {e n b n' b' T sz k:Nat} {d:TypeDesc} {z z':Value} {f:α→List D} {l:List α} {κ:IntKind} (hop:o.op = .indexAddr t x y) (hx:Et hp (arg x) = some (slD T sz (l.map f))) (hy:arg y = .d (ex (.int κ (k:Nat)))) (ht:Tab P t (.slice e) n b z) (he:Tab P e d n' b' z') (hsz:n' = sz) (hk:k<l.length):Quiet P hp o arg (.d (Iu T (f (l.getD k default)))):=by
 have h1:=Quiet.index (P:=P) (hp:=hp) hop hx hy ht he hsz (by omega) (by simp;omega)
 have e1:(l.map f).getD ((k:Nat):Int).toNat [] = f (l.getD k default):=by
  show (l.map f).getD k [] = _
  simp [List.getD_eq_getElem?_getD,hk]
 rwa [e1] at h1
theorem OY {x : Operand} {t:TypeId} {d:TypeDesc} {n b T:Nat} {z:Value} {ds:List D} (hop:o.op = .load t x) (hx:arg x = .d (Iu T ds)) (ht:Tab P t d n b z) (hd:DP d = true) (hn:ds.length = n):Quiet P hp o arg (.d (BF ds)):=by
 have:=Kt (P:=P) (hp:=hp) hop hx ht hd (by omega)
 rwa [← hn,List.take_length] at this
theorem Qq {hp : List Ow}:∀ (l:List D),RW hp (l.map .d) = some l
 | []=>rfl
 | x :: l=>by simp only [List.map_cons,RW,Et,Qq l]
theorem QR {x : Operand} {t:TypeId} {d:TypeDesc} {n b T id off:Nat} {z:Value} {ds:List D} (hop:o.op = .load t x) (hx:arg x = .ptr id off) (hh:hp[id]? = some (.var T (ds.map .d))) (ht:Tab P t d n b z) (hd:DP d = true) (hn:Nat.ble (off+n) ds.length = true):Quiet P hp o arg (.d (BF ((ds.drop off).take n))) :=
 QQ hop hx hh ht hd (by rw [← List.map_drop,← List.map_take];exact Qq _) (by have:=Nat.le_of_ble_eq_true hn;simpa using this)
theorem Js {x : Operand} {t:TypeId} {d:TypeDesc} {n b T id off:Nat} {z:Value} {ds:List D} (hop:o.op = .load t x) (hx:arg x = .ptr id off) (hh:hp[id]? = some (.var T (ds.map .d))) (ht:Tab P t d n b z) (hd:DP d = false) (hn:off<ds.length):Quiet P hp o arg (.d (BP ds off)) :=
 OX hop hx hh ht hd (by rw [Zf,if_pos hn])
end
section
variable {P : Program} {s0:An} {n:Nat} {ops:Array Oper} {Q:Exit→AS→Prop} {rest:List Oper} {o:Oper} {σ:AS}
theorem SG {T T0:TypeId} {d:TypeDesc} {b id m:Nat} {z:Value} {x y:Operand} {cells:List AV} {ds:List D} (hop:o.op = .store T x y) (hg:o.guard = none) (hds:o.dst = none) (hx:σ.arg x = .ptr id 0) (hy:σ.arg y = .d (BF ds)) (hh:σ.hp[id]? = some (.var T0 cells)) (ht:Tab P T d m b z) (hm:ds.length = m) (hoff:cells.length = m)
  (h:AWl P s0 n ops Q rest { fr:=σ.fr,hp:=σ.hp.set id (.var T0 (ds.map .d)) }):AWl P s0 n ops Q (o :: rest) σ:=by
 refine SH hop hg hds hx hy hh ht hm (by omega) ?_
 have:IA cells 0 (ds.map .d) = ds.map .d:=by
  unfold IA
  rw [List.take_zero,List.nil_append,List.drop_eq_nil_of_le (by simp;omega),List.append_nil]
 rw [this]
 exact h
theorem Kw {T T0:TypeId} {d:TypeDesc} {b id off:Nat} {z:Value} {x y:Operand} {cs:List D} {u:D} (hop:o.op = .store T x y) (hg:o.guard = none) (hds:o.dst = none) (hx:σ.arg x = .ptr id off) (hy:σ.arg y = .d u) (hh:σ.hp[id]? = some (.var T0 (cs.map .d))) (ht:Tab P T d 1 b z) (h1:One σ.hp (.d u)) (hoff:off<cs.length)
  (h:AWl P s0 n ops Q rest { fr:=σ.fr,hp:=σ.hp.set id (.var T0 ((cs.set off u).map .d)) }):AWl P s0 n ops Q (o :: rest) σ:=by
 refine SI hop hg hds hx hy hh ht h1 (by simpa using hoff) ?_
 have:(cs.map AV.d).set off (.d u) = (cs.set off u).map .d:=by rw [List.map_set]
 rw [this]
 exact h
theorem SL {T : TypeId} {d:TypeDesc} {m b:Nat} {z:Value} (hop:o.op = .alloc T) (hg:o.guard = none) (ht:Tab P T d m b z) (hT:Nat.beq T 139 = false) (h1:Gd z.cells.toList = true) (hd:TA o.dst n = true) (h:AWl P s0 n ops Q rest (σ.new o.dst (.ptr σ.hp.length 0) (.var T ((z.cells.toList.map ex).map .d)))):AWl P s0 n ops Q (o :: rest) σ:=by
 refine AWl.alloc hop hg ht (Nat.ne_of_beq_eq_false hT) h1 hd ?_
 have:VV z.cells.toList = (z.cells.toList.map ex).map .d:=by simp [VV]
 rw [this]
 exact h
end
def A1B (fr : List (Nat × AV)):Operand→Option AV
 | .tmp t=>CG fr t
 | .const v=>some (.d (ex v))
 | .global g=>some (.d (ex (.pointer (some ⟨g,0,none⟩))))
 | .func f=>some (.d (ex (.func (.func f) #[] #[])))
theorem ao {fr : List (Nat × AV)} {hp:List Ow} {x:Operand} {av:AV} (h:A1B fr x = some av):AS.arg ⟨fr,hp⟩ x = av:=by
 cases x with
 | tmp t =>
  show (CG fr t).getD (.d Ds) = av
  have h:CG fr t = some av:=h
  rw [h];rfl
 | const v=>exact Option.some.inj h
 | global g=>exact Option.some.inj h
 | func f=>exact Option.some.inj h
theorem Sl {α : Type} {P:Program} {hp:List Ow} {o:Oper} {arg:Operand→AV} {x:Operand} {t:TypeId} {e n b T sz:Nat} {z:Value} {f:α→List D} {l:List α} (hop:o.op = .call { callee:=.builtin .len,args:=#[x],argTypes:=#[t] }) (hx:Et hp (arg x) = some (slD T sz (l.map f))) (ht:Tab P t (.slice e) n b z):Quiet P hp o arg (.d (ex (.int .i64 (l.length:Nat)))):=by
 have:=Quiet.len (P:=P) hop hx ht
 rwa [List.length_map] at this
def Km : List (Nat × Nat)→Nat→Option Nat
 | [],_=>none
 | p :: r,t=>bif Nat.beq p.1 t then some p.2 else Km r t
theorem LN : ∀ {es:List (Nat × Nat)} {t j:Nat},Km es t = some j→∃ p,es.find? (fun p=>p.1 == t) = some p∧p.2 = j
 | [],_,_,h=>by cases h
 | p :: r,t,j,h=>by
  unfold Km at h
  cases hb:Nat.beq p.1 t with
  | true=>rw [hb] at h;cases h;exact ⟨p,by rw [List.find?_cons,Nat.eq_of_beq_eq_true hb];simp,rfl⟩
  | false =>
   rw [hb] at h
   obtain ⟨q,h1,h2⟩:=LN h
   refine ⟨q,?_,h2⟩
   rw [List.find?_cons]
   have:(p.1 == t) = false:=by simpa using Nat.ne_of_beq_eq_false hb
   rw [this]
   exact h1
theorem LO : ∀ {es:List (Nat × Nat)} {t:Nat},Km es t = none→es.find? (fun p=>p.1 == t) = none
 | [],_,_=>rfl
 | p :: r,t,h=>by
  unfold Km at h
  cases hb:Nat.beq p.1 t with
  | true=>rw [hb] at h;cases h
  | false =>
   rw [hb] at h
   rw [List.find?_cons]
   have:(p.1 == t) = false:=by simpa using Nat.ne_of_beq_eq_false hb
   rw [this]
   exact LO h
def Fb : Option HR→Option AV
 | some (.av r)=>some r
 | _=>none
def A1A (fr : List (Nat × AV)) (rs:List HR) (es:List (Nat × Nat)):Operand→Option AV
 | .tmp t=>match Km es t with
  | some j=>Fb rs[j]?
  | none=>CG fr t
 | .const v=>some (.d (ex v))
 | .global _=>none
 | .func f=>some (.d (ex (.func (.func f) #[] #[])))
theorem ah {fr : List (Nat × AV)} {hp:List Ow} {rs:List HR} {es:List (Nat × Nat)} {x:Operand} {av:AV} (h:A1A fr rs es x = some av):Mk ⟨fr,hp⟩ rs es x = av:=by
 cases x with
 | tmp t =>
  replace h:(match Km es t with
   | some j=>Fb rs[j]?
   | none=>CG fr t) = some av:=h
  show (match es.find? (fun p=>p.1 == t) with
   | some p=>match rs[p.2]? with
    | some h=>h.val
    | none=>.d Ds
   | none=>(CG fr t).getD (.d Ds)) = av
  cases hf:Km es t with
  | some j =>
   rw [hf] at h
   replace h:Fb rs[j]? = some av:=h
   obtain ⟨p,h1,h2⟩:=LN hf
   simp only [h1,h2]
   cases hr:rs[j]? with
   | none=>rw [hr] at h;cases h
   | some r =>
    rw [hr] at h
    cases r with
    | av r=>cases h;rfl
    | new T cs=>cases h
  | none =>
   rw [hf] at h
   simp only [LO hf]
   have h:CG fr t = some av:=h
   rw [h];rfl
 | const v=>exact Option.some.inj h
 | global g=>cases h
 | func f=>exact Option.some.inj h
def DS : List Ow→Ow→Option (List Ow)
 | [],x=>some [x]
 | o :: l,x=>match DS l x with
  | some r=>some (o :: r)
  | none=>none
theorem Dd : ∀ {l:List Ow} {x:Ow} {r:List Ow},DS l x = some r→r = l ++ [x]
 | [],x,r,h=>by cases h;rfl
 | o :: l,x,r,h=>by
  unfold DS at h
  split at h
  ·rename_i r' h'
   cases h
   rw [Dd h']
   rfl
  ·cases h
def GM : List Ow→Option Nat
 | []=>some 0
 | _ :: l=>match GM l with
  | some k=>some (k+1)
  | none=>none
theorem EB : ∀ {l:List Ow} {k:Nat},GM l = some k→k = l.length
 | [],k,h=>by cases h;rfl
 | o :: l,k,h=>by
  unfold GM at h
  split at h
  ·rename_i r' h'
   cases h
   rw [EB h']
   rfl
  ·cases h
def Db : List Ow→Nat→Ow→Option (List Ow)
 | [],_,_=>none
 | _ :: l,0,x=>some (x :: l)
 | o :: l,i+1,x=>match Db l i x with
  | some r=>some (o :: r)
  | none=>none
theorem CA : ∀ {l:List Ow} {i:Nat} {x:Ow} {r:List Ow},Db l i x = some r→r = l.set i x
 | [],_,_,_,h=>by cases h
 | _ :: l,0,x,r,h=>by cases h;rfl
 | o :: l,i+1,x,r,h=>by
  unfold Db at h
  split at h
  ·rename_i r' h'
   cases h
   rw [CA h']
   rfl
  ·cases h
def Zb : List Value→Option (List D)
 | []=>some []
 | v :: l=>match Zb l with
  | some r=>some (ex v :: r)
  | none=>none
theorem LR : ∀ {l:List Value} {r:List D},Zb l = some r→r = l.map ex
 | [],r,h=>by cases h;rfl
 | v :: l,r,h=>by
  unfold Zb at h
  split at h
  ·rename_i r' h'
   cases h
   rw [LR h']
   rfl
  ·cases h
def Ld : Nat→List D→Option (List D)
 | 0,_=>some []
 | _+1,[]=>none
 | n+1,d :: l=>match Ld n l with
  | some r=>some (d :: r)
  | none=>none
theorem Lc : ∀ {n:Nat} {l r:List D},Ld n l = some r→r = l.take n∧n≤l.length
 | 0,l,r,h=>by cases h;exact ⟨rfl,Nat.zero_le _⟩
 | n+1,[],r,h=>by cases h
 | n+1,d :: l,r,h=>by
  unfold Ld at h
  split at h
  ·rename_i r' h'
   cases h
   obtain ⟨h1,h2⟩:=Lc h'
   exact ⟨by rw [h1];rfl,by simpa using h2⟩
  ·cases h
def Wo : Nat→Nat→List D→Option (List D)
 | 0,n,l=>Ld n l
 | _+1,_,[]=>none
 | o+1,n,_ :: l=>Wo o n l
theorem SV : ∀ {o n:Nat} {l r:List D},Wo o n l = some r→r = (l.drop o).take n∧o+n≤l.length
 | 0,n,l,r,h=>by
  obtain ⟨h1,h2⟩:=Lc (n:=n) (l:=l) (r:=r) (by cases l <;> exact h)
  exact ⟨h1,by omega⟩
 | o+1,n,[],r,h=>by cases h
 | o+1,n,d :: l,r,h=>by
  obtain ⟨h1,h2⟩:=SV (o:=o) (by exact h)
  exact ⟨h1,by simp;omega⟩
def XD : Nat→List D→Option D
 | _,[]=>none
 | 0,d :: _=>some d
 | i+1,_ :: l=>XD i l
theorem ON : ∀ {i:Nat} {l:List D} {d:D},XD i l = some d→d = BP l i∧i<l.length
 | i,[],d,h=>by cases i <;> cases h
 | 0,x :: l,d,h=>by cases h;exact ⟨rfl,by simp⟩
 | i+1,x :: l,d,h=>by
  obtain ⟨h1,h2⟩:=ON (i:=i) (by exact h)
  exact ⟨h1,by simpa using h2⟩
def WN : List D→List D→Option (List D)
 | [],r=>some r
 | d :: l,r=>match WN l r with
  | some x=>some (d :: x)
  | none=>none
theorem Th : ∀ {l r x:List D},WN l r = some x→x = l ++ r
 | [],r,x,h=>by cases h;rfl
 | d :: l,r,x,h=>by
  unfold WN at h
  split at h
  ·rename_i x' h'
   cases h
   rw [Th h']
   rfl
  ·cases h
def LU : Nat→List D→Option (List D)
 | 0,l=>some l
 | _+1,[]=>none
 | n+1,_ :: l=>LU n l
theorem LT : ∀ {n:Nat} {l r:List D},LU n l = some r→r = l.drop n∧n≤l.length
 | 0,l,r,h=>by cases l <;> (cases h;exact ⟨rfl,Nat.zero_le _⟩)
 | n+1,[],r,h=>by cases h
 | n+1,d :: l,r,h=>by
  obtain ⟨h1,h2⟩:=LT (n:=n) (by exact h)
  exact ⟨h1,by simpa using h2⟩
def Rr : List D→Nat→List D→Option (List D)
 | l,0,es=>match LU es.length l with
  | some r=>WN es r
  | none=>none
 | [],_+1,_=>none
 | d :: l,o+1,es=>match Rr l o es with
  | some r=>some (d :: r)
  | none=>none
theorem Ob : ∀ {l:List D} {o:Nat} {es r:List D},Rr l o es = some r→r = MY l o es∧o+es.length≤l.length
 | l,0,es,r,h=>by
  have h':(match LU es.length l with
   | some r=>WN es r
   | none=>none) = some r:=by cases l <;> exact h
  split at h'
  ·rename_i r' h1
   obtain ⟨h2,h3⟩:=LT h1
   rw [Th h',h2]
   exact ⟨by simp [MY],by omega⟩
  ·cases h'
 | [],o+1,es,r,h=>by cases h
 | d :: l,o+1,es,r,h=>by
  unfold Rr at h
  split at h
  ·rename_i r' h1
   cases h
   obtain ⟨h2,h3⟩:=Ob h1
   rw [h2]
   refine ⟨?_,by simp;omega⟩
   simp only [MY,List.take_succ_cons,List.cons_append]
   rw [show o+1+es.length = (o+es.length)+1 by omega,List.drop_succ_cons]
  ·cases h
def DN (id : Nat) (x:D):List (Nat × AV)→Option (List (Nat × AV))
 | []=>some []
 | (t,.own j) :: l=>match DN id x l with
  | some r=>bif Nat.beq j id then some ((t,.d x) :: r) else some ((t,.own j) :: r)
  | none=>none
 | (t,.fn f caps) :: l=>match DN id x l with
  | some r=>bif caps.contains id then some ((t,.d Ds) :: r) else some ((t,.fn f caps) :: r)
  | none=>none
 | (t,av) :: l=>match DN id x l with
  | some r=>some ((t,av) :: r)
  | none=>none
theorem Gy {id : Nat} {x:D}:∀ {l r:List (Nat × AV)},DN id x l = some r→r = l.map fun p=>(p.1,down id x p.2)
 | [],r,h=>by cases h;rfl
 | (t,av) :: l,r,h=>by
  have key:∃ r',DN id x l = some r'∧r = (t,down id x av) :: r':=by
   cases av with
   | d y =>
    replace h:(match DN id x l with
     | some r=>some ((t,.d y) :: r)
     | none=>none) = some r:=h
    split at h
    ·rename_i r' h';cases h;exact ⟨r',h',rfl⟩
    ·cases h
   | fn f caps =>
    replace h:(match DN id x l with
     | some r=>bif caps.contains id then some ((t,.d Ds) :: r) else some ((t,.fn f caps) :: r)
     | none=>none) = some r:=h
    split at h
    ·rename_i r' h'
     cases hb:caps.contains id with
     | true=>rw [hb] at h;cases h;exact ⟨r',h',by simp only [down,hb];rfl⟩
     | false=>rw [hb] at h;cases h;exact ⟨r',h',by simp only [down,hb];rfl⟩
    ·cases h
   | ptr i o =>
    replace h:(match DN id x l with
     | some r=>some ((t,.ptr i o) :: r)
     | none=>none) = some r:=h
    split at h
    ·rename_i r' h';cases h;exact ⟨r',h',rfl⟩
    ·cases h
   | own j =>
    replace h:(match DN id x l with
     | some r=>bif Nat.beq j id then some ((t,.d x) :: r) else some ((t,.own j) :: r)
     | none=>none) = some r:=h
    split at h
    ·rename_i r' h'
     cases hb:Nat.beq j id with
     | true=>rw [hb] at h;cases h;exact ⟨r',h',by simp [down,hb]⟩
     | false=>rw [hb] at h;cases h;exact ⟨r',h',by simp [down,hb]⟩
    ·cases h
  obtain ⟨r',h1,rfl⟩:=key
  rw [Gy h1]
  rfl
def Ei (id : Nat):List AV→Bool
 | []=>true
 | .own j :: l=>bif Nat.beq j id then false else Ei id l
 | .fn _ caps :: l=>bif caps.contains id then false else Ei id l
 | _ :: l=>Ei id l
def EW (id : Nat):List Ow→Bool
 | []=>true
 | .var _ c :: l=>Ei id c && EW id l
 | .pin c :: l=>Ei id (c.map (·.2)) && EW id l
 | _ :: l=>EW id l
theorem DV {id : Nat} {x:D}:∀ {l:List AV},Ei id l = true→l.map (down id x) = l
 | [],_=>rfl
 | .d y :: l,h=>by rw [List.map_cons,DV (by exact h)];rfl
 | .ptr _ _ :: l,h=>by rw [List.map_cons,DV (by exact h)];rfl
 | .own j :: l,h=>by
  replace h:(bif Nat.beq j id then false else Ei id l) = true:=h
  cases hb:Nat.beq j id with
  | true=>rw [hb] at h;cases h
  | false=>rw [hb] at h;rw [List.map_cons,DV (by exact h)];simp only [down,hb];rfl
 | .fn f caps :: l,h=>by
  replace h:(bif caps.contains id then false else Ei id l) = true:=h
  cases hb:caps.contains id with
  | true=>rw [hb] at h;cases h
  | false=>rw [hb] at h;rw [List.map_cons,DV (by exact h)];simp only [down,hb];rfl
theorem RE {id : Nat} {x:D}:∀ {l:List (Value × AV)},Ei id (l.map (·.2)) = true→(l.map fun p=>(p.1,down id x p.2)) = l:=fun {l} h=>by
 have h1:=DV (x:=x) h
 apply List.ext_getElem?
 intro k
 have h2:=congrArg (fun y=>y[k]?) h1
 simp only [List.getElem?_map] at h2 ⊢
 cases hk:l[k]? with
 | none=>rfl
 | some p =>
  rw [hk] at h2
  simp only [Option.map_some,Option.some.injEq] at h2 ⊢
  rw [h2]
theorem Cu {id : Nat} {x:D}:∀ {l:List Ow},EW id l = true→l.map (Ow.mapA (down id x)) = l
 | [],_=>rfl
 | .var T c :: l,h=>by
  simp only [EW,Bool.and_eq_true] at h
  rw [List.map_cons,Cu h.2]
  simp only [Ow.mapA,DV h.1]
 | .pin c :: l,h=>by
  simp only [EW,Bool.and_eq_true] at h
  rw [List.map_cons,Cu h.2]
  simp only [Ow.mapA,RE h.1]
 | .dead :: l,h=>by rw [List.map_cons,Cu (by exact h)];rfl
 | .row _ _ _ :: l,h=>by rw [List.map_cons,Cu (by exact h)];rfl
 | .obj _ :: l,h=>by rw [List.map_cons,Cu (by exact h)];rfl
theorem Kh {id : Nat}:∀ l:List D,Ei id (l.map .d) = true
 | []=>rfl
 | _ :: l=>Kh (id:=id) l
def PlainHp (id : Nat):List Ow→Prop
 | []=>True
 | .var _ c :: l=>Ei id c = true∧PlainHp id l
 | .pin c :: l=>Ei id (c.map (·.2)) = true∧PlainHp id l
 | _ :: l=>PlainHp id l
theorem PlainHp.ok {id : Nat}:∀ {l:List Ow},PlainHp id l→EW id l = true
 | [],_=>rfl
 | .var T c :: l,h=>by simp only [EW,Bool.and_eq_true];exact ⟨h.1,PlainHp.ok h.2⟩
 | .pin c :: l,h=>by simp only [EW,Bool.and_eq_true];exact ⟨h.1,PlainHp.ok h.2⟩
 | .dead :: l,h=>PlainHp.ok (l:=l) h
 | .row _ _ _ :: l,h=>PlainHp.ok (l:=l) h
 | .obj _ :: l,h=>PlainHp.ok (l:=l) h
section
variable {id : Nat} {l:List Ow}
theorem PlainHp.nil : PlainHp id []:=trivial
theorem PlainHp.var {T : TypeId} {c:List D} (h:PlainHp id l):PlainHp id (.var T (c.map .d) :: l):=⟨Kh c,h⟩
theorem CH {T : TypeId} {c:List AV} (hc:Ei id c = true) (h:PlainHp id l):PlainHp id (.var T c :: l):=⟨hc,h⟩
theorem PlainHp.pin {c : List (Value × AV)} (hc:Ei id (c.map (·.2)) = true) (h:PlainHp id l):PlainHp id (.pin c :: l):=⟨hc,h⟩
theorem PlainHp.obj {O : OD} (h:PlainHp id l):PlainHp id (.obj O :: l):=h
theorem PlainHp.dead (h : PlainHp id l):PlainHp id (.dead :: l):=h
theorem CX {T sz:Nat} {r:List (List D)} (h:PlainHp id l):PlainHp id (.row T sz r :: l):=h
end
def OO : List (Nat × AV)→List Ow→Nat→List Oper→List HR→Option AS
 | fr,hp,0,_,_=>some ⟨fr,hp⟩
 | fr,hp,m+1,o :: L,.av r :: rs=>match o.dst with
  | some d=>OO ((d,r) :: fr) hp m L rs
  | none=>OO fr hp m L rs
 | fr,hp,m+1,o :: L,.new T cs :: rs=>match o.dst,GM hp,Zb cs with
  | some d,some k,some c=>match DS hp (.var T (c.map .d)) with
   | some hp'=>OO ((d,.ptr k 0) :: fr) hp' m L rs
   | none=>none
  | _,_,_=>none
 | _,_,_,_,_=>none
theorem KM : ∀ {m:Nat} {fr:List (Nat × AV)} {hp:List Ow} {L:List Oper} {rs:List HR} {τ:AS},OO fr hp m L rs = some τ→rs.length = m→τ = AS.aft ⟨fr,hp⟩ (L.take m) rs
 | 0,fr,hp,L,rs,τ,h,hl=>by
  obtain rfl:rs = []:=List.eq_nil_of_length_eq_zero hl
  cases L <;> (cases h;rfl)
 | m+1,fr,hp,[],[],τ,h,hl=>by cases hl
 | m+1,fr,hp,[],r :: rs,τ,h,hl=>by cases r <;> cases h
 | m+1,fr,hp,o :: L,[],τ,h,hl=>by cases hl
 | m+1,fr,hp,o :: L,.av r :: rs,τ,h,hl=>by
  rw [List.take_succ_cons]
  have hl:rs.length = m:=by simpa using hl
  unfold OO at h
  cases hd:o.dst with
  | some d =>
   rw [hd] at h
   have:=KM h hl
   rw [this]
   simp only [AS.aft,AS.put,hd]
  | none =>
   rw [hd] at h
   have:=KM h hl
   rw [this]
   simp only [AS.aft,AS.put,hd]
 | m+1,fr,hp,o :: L,.new T cs :: rs,τ,h,hl=>by
  rw [List.take_succ_cons]
  have hl:rs.length = m:=by simpa using hl
  unfold OO at h
  split at h
  ·rename_i d k c hd hk hc
   split at h
   ·rename_i hp' hs
    have:=KM h hl
    rw [this]
    have e1:=Dd hs
    have e2:=EB hk
    have e3:=LR hc
    subst e1;subst e2;subst e3
    simp only [AS.aft,AS.new,AS.put,hd]
    congr 3
    simp [VV]
   ·cases h
  ·cases h
section
variable {P : Program} {s0:An} {n:Nat} {ops:Array Oper} {Q:Exit→AS→Prop} {rest:List Oper} {o:Oper} {fr:List (Nat × AV)} {hp:List Ow}
theorem A1q {d : Nat} {r:AV} (hdst:o.dst = some d) (hg:o.guard = none) (hs:Ca o.op = true) (hd:Nat.blt d n = true) (hq:Quiet P hp o (AS.arg ⟨fr,hp⟩) r) (h:AWl P s0 n ops Q rest ⟨(d,r) :: fr,hp⟩):AWl P s0 n ops Q (o :: rest) ⟨fr,hp⟩ :=
 VP hg hs (by rw [hdst];exact hd) hq (by rw [hdst];exact h)
theorem A0X {d : Nat} {r:AV} {j:Nat} {b:Bool} {e:Nat} (hg:o.guard = some (j,b)) (hy:(ops[j]?).bind (·.dst) = some e) (hl:CG fr e = some (.d (ex (.bool b)))) (hen:Nat.blt e n = true) (hdst:o.dst = some d) (hs:Ca o.op = true) (hd:Nat.blt d n = true) (hq:Quiet P hp o (AS.arg ⟨fr,hp⟩) r) (h:AWl P s0 n ops Q rest ⟨(d,r) :: fr,hp⟩):AWl P s0 n ops Q (o :: rest) ⟨fr,hp⟩ :=
 SJ hg hy hl (by simpa [Nat.blt_eq] using hen) hs (by rw [hdst];exact hd) hq (by rw [hdst];exact h)
theorem A0W {d : Nat} {j:Nat} {b:Bool} {u:Value} {e:Nat} (hg:o.guard = some (j,b)) (hy:(ops[j]?).bind (·.dst) = some e) (hl:CG fr e = some (.d (ex u))) (hne:ZY u b = false) (hen:Nat.blt e n = true) (hdst:o.dst = some d) (hd:Nat.blt d n = true) (h:AWl P s0 n ops Q rest ⟨(d,.d (ex undef)) :: fr,hp⟩):AWl P s0 n ops Q (o :: rest) ⟨fr,hp⟩ :=
 VO hg hy hl hne (by simpa [Nat.blt_eq] using hen) (by rw [hdst];exact hd) (by rw [hdst];exact h)
theorem A13 {T : TypeId} {d:TypeDesc} {m b k t:Nat} {z:Value} {c:List D} {hp':List Ow} (hop:o.op = .alloc T) (hdst:o.dst = some t) (hg:o.guard = none) (ht:Tab P T d m b z) (hT:Nat.beq T 139 = false) (h1:Gd z.cells.toList = true) (hd:Nat.blt t n = true) (hc:Zb z.cells.toList = some c) (hk:GM hp = some k) (hs:DS hp (.var T (c.map .d)) = some hp') (h:AWl P s0 n ops Q rest ⟨(t,.ptr k 0) :: fr,hp'⟩):AWl P s0 n ops Q (o :: rest) ⟨fr,hp⟩:=by
 refine SL hop hg ht hT h1 (by rw [hdst];exact hd) ?_
 rw [LR hc] at hs
 rw [Dd hs,EB hk] at h
 simp only [AS.new,AS.put,hdst]
 exact h
theorem A0Z {T : TypeId} {x:Operand} {ds:List D} {k t:Nat} {hp':List Ow} (hop:o.op = .box T x) (hdst:o.dst = some t) (hg:o.guard = none) (hx:AS.arg ⟨fr,hp⟩ x = .d (BF ds)) (hT:Nat.beq T 139 = false) (hd:Nat.blt t n = true) (hk:GM hp = some k) (hs:DS hp (.var T (ds.map .d)) = some hp') (h:AWl P s0 n ops Q rest ⟨(t,.ptr k 0) :: fr,hp'⟩):AWl P s0 n ops Q (o :: rest) ⟨fr,hp⟩:=by
 refine AWl.box hop hg hx (Nat.ne_of_beq_eq_false hT) (by rw [hdst];exact hd) ?_
 rw [Dd hs,EB hk] at h
 simp only [AS.new,AS.put,hdst]
 exact h
theorem ZP {T T0:TypeId} {d:TypeDesc} {b id m:Nat} {z:Value} {x y:Operand} {cells:List AV} {ds:List D} {hp':List Ow} (hop:o.op = .store T x y) (hg:o.guard = none) (hds:o.dst = none) (hx:AS.arg ⟨fr,hp⟩ x = .ptr id 0) (hy:AS.arg ⟨fr,hp⟩ y = .d (BF ds)) (hh:hp[id]? = some (.var T0 cells)) (ht:Tab P T d m b z) (hm:ds.length = m) (hoff:cells.length = m) (hs:Db hp id (.var T0 (ds.map .d)) = some hp')
  (h:AWl P s0 n ops Q rest ⟨fr,hp'⟩):AWl P s0 n ops Q (o :: rest) ⟨fr,hp⟩ :=
 SG hop hg hds hx hy hh ht hm hoff (by rw [CA hs] at h;exact h)
theorem Yt {T T0:TypeId} {d:TypeDesc} {b id off:Nat} {z:Value} {x y:Operand} {cs cs':List D} {u:D} {hp':List Ow} (hop:o.op = .store T x y) (hg:o.guard = none) (hds:o.dst = none) (hx:AS.arg ⟨fr,hp⟩ x = .ptr id off) (hy:AS.arg ⟨fr,hp⟩ y = .d u) (hh:hp[id]? = some (.var T0 (cs.map .d))) (ht:Tab P T d 1 b z) (h1:One hp (.d u)) (hc:Rr cs off [u] = some cs') (hs:Db hp id (.var T0 (cs'.map .d)) = some hp')
  (h:AWl P s0 n ops Q rest ⟨fr,hp'⟩):AWl P s0 n ops Q (o :: rest) ⟨fr,hp⟩:=by
 obtain ⟨e1,e2⟩:=Ob hc
 have hlt:off<cs.length:=e2
 refine Kw hop hg hds hx hy hh ht h1 hlt ?_
 rw [CA hs,e1] at h
 have:MY cs off [u] = cs.set off u:=by
  unfold MY
  rw [List.set_eq_take_append_cons_drop,if_pos hlt]
  rfl
 rw [this] at h
 exact h
theorem AWl.app {x y:Operand} {t T T2 sz bytes id m b e:Nat} {z z':Value} {d:TypeDesc} {rows r2:List (List D)} {fr':List (Nat × AV)} {hp':List Ow} (hop:o.op = .call { callee:=.builtin .append,args:=#[x,y],argTypes:=#[t,t] }) (hdst:o.dst = some e) (hg:o.guard = none) (hx:AS.arg ⟨fr,hp⟩ x = .own id) (hy:Et hp (AS.arg ⟨fr,hp⟩ y) = some (slD T2 sz r2)) (hh:hp[id]? = some (.row T sz rows)) (ht:Tab P t (.slice T) m b z') (hT:Tab P T d sz bytes z) (hzs:z.cells.size = sz) (hd:Nat.blt e n = true) (hbytes:(rows.length+r2.length)*bytes≤140737488355328) (h63:rows.length+r2.length≤4611686018427387904)
  (hf:DN id (slD T sz rows) fr = some fr') (hpl:PlainHp id hp) (hs:Db hp id (.row T sz (rows ++ r2)) = some hp') (h:AWl P s0 n ops Q rest ⟨(e,.own id) :: fr',hp'⟩):AWl P s0 n ops Q (o :: rest) ⟨fr,hp⟩:=by
 refine AWl.append hop hg hx hy hh ht hT hzs (by rw [hdst];exact hd) hbytes h63 ?_
 rw [CA hs,Gy hf] at h
 simp only [AS.appd,AS.put,hdst,Cu hpl.ok]
 exact h
theorem A12 {t T m b sz bytes k e:Nat} {z z':Value} {d:TypeDesc} {hp':List Ow} (hop:o.op = .buildSlice t 0 #[]) (hdst:o.dst = some e) (hg:o.guard = none) (ht:Tab P t (.slice T) m b z') (hT:Tab P T d sz bytes z) (hT32:Nat.beq T 139 = false) (h0:Nat.blt 0 sz = true) (hd:Nat.blt e n = true) (hk:GM hp = some k) (hs:DS hp (.row T sz []) = some hp') (h:AWl P s0 n ops Q rest ⟨(e,.own k) :: fr,hp'⟩):AWl P s0 n ops Q (o :: rest) ⟨fr,hp⟩:=by
 refine SK hop hg ht hT (Nat.ne_of_beq_eq_false hT32) (by simpa [Nat.blt_eq] using h0) (by rw [hdst];exact hd) ?_
 rw [Dd hs,EB hk] at h
 simp only [AS.new,AS.put,hdst]
 exact h
theorem ZR {t T m b sz bytes k e:Nat} {z z':Value} {d:TypeDesc} {x y:Operand} {c:Int} {hp':List Ow} (hop:o.op = .makeSlice t x y) (hdst:o.dst = some e) (hg:o.guard = none) (hx:AS.arg ⟨fr,hp⟩ x = .d (ex (.int .i64 0))) (hy:AS.arg ⟨fr,hp⟩ y = .d (ex (.int .i64 c))) (ht:Tab P t (.slice T) m b z') (hT:Tab P T d sz bytes z) (hc0:0≤c) (hc:c≤1000000000) (hbytes:Nat.ble bytes 65536 = true) (hT32:Nat.beq T 139 = false) (h0:Nat.blt 0 sz = true) (hd:Nat.blt e n = true) (hk:GM hp = some k) (hs:DS hp (.row T sz []) = some hp') (h:AWl P s0 n ops Q rest ⟨(e,.own k) :: fr,hp'⟩):AWl P s0 n ops Q (o :: rest) ⟨fr,hp⟩:=by
 refine VQ hop hg hx hy ht hT hc0 hc (Nat.le_of_ble_eq_true hbytes) (Nat.ne_of_beq_eq_false hT32) (by simpa [Nat.blt_eq] using h0) (by rw [hdst];exact hd) ?_
 rw [Dd hs,EB hk] at h
 simp only [AS.new,AS.put,hdst]
 exact h
theorem AWp.dr {id : Nat} {L0:Array Oper} {L:List Oper} {Q0:Exit→AS→Prop} {τ:AS} (hm:DrawOk P s0 n id L0 L Q0 Q) (es:List (List (Nat × Nat))) (bs:List (List Nat)) (rs:List HR) (hlen:(es.length == bs.length && es.length == rs.length && Nat.ble rs.length L.length) = true) (hok:CJ L (DT 0 es bs) = true) (hd:EL L es.length n = true) (steps:HSteps P ⟨fr,hp⟩ rs L es rs)
  (ha:OO fr hp rs.length L rs = some τ) (tail:AWl P s0 n L.toArray Q (L.drop es.length) τ):AWp P s0 n (.region id L0 true) Q0 ⟨fr,hp⟩:=by
 refine Yq hm es bs rs hlen hok hd steps ?_
 simp only [Bool.and_eq_true,beq_iff_eq] at hlen
 rw [hlen.1.2,← KM ha rfl,← hlen.1.2]
 exact tail
end
section
variable {P : Program} {hp:List Ow} {o:Oper} {arg:Operand→AV}
theorem Vz {x : Operand} {t:TypeId} {d:TypeDesc} {n b T:Nat} {z:Value} {ds r:List D} (hop:o.op = .load t x) (hx:arg x = .d (Iu T ds)) (ht:Tab P t d n b z) (hd:DP d = true) (hr:Ld n ds = some r):Quiet P hp o arg (.d (BF r)):=by
 obtain ⟨e1,e2⟩:=Lc hr
 rw [e1]
 exact Kt hop hx ht hd e2
theorem Sm {x : Operand} {t:TypeId} {d:TypeDesc} {n b T:Nat} {z:Value} {ds:List D} {r:D} (hop:o.op = .load t x) (hx:arg x = .d (Iu T ds)) (ht:Tab P t d n b z) (hd:DP d = false) (hr:XD 0 ds = some r):Quiet P hp o arg (.d r):=by
 obtain ⟨e1,e2⟩:=ON hr
 rw [e1]
 exact OZ hop hx ht hd e2
theorem VA {x : Operand} {t:TypeId} {d:TypeDesc} {n b T id off:Nat} {z:Value} {ds r:List D} (hop:o.op = .load t x) (hx:arg x = .ptr id off) (hh:hp[id]? = some (.var T (ds.map .d))) (ht:Tab P t d n b z) (hd:DP d = true) (hr:Wo off n ds = some r):Quiet P hp o arg (.d (BF r)):=by
 obtain ⟨e1,e2⟩:=SV hr
 rw [e1]
 exact QR hop hx hh ht hd (Nat.ble_eq_true_of_le e2)
theorem Sn {x : Operand} {t:TypeId} {d:TypeDesc} {n b T id off:Nat} {z:Value} {ds:List D} {r:D} (hop:o.op = .load t x) (hx:arg x = .ptr id off) (hh:hp[id]? = some (.var T (ds.map .d))) (ht:Tab P t d n b z) (hd:DP d = false) (hr:XD off ds = some r):Quiet P hp o arg (.d r):=by
 obtain ⟨e1,e2⟩:=ON hr
 rw [e1]
 exact Js hop hx hh ht hd e2
theorem Quiet.ext {x : Operand} {i:Nat} {ds:List D} {r:D} (hop:o.op = .extract x i) (hx:arg x = .d (Da ds)) (hr:XD i ds = some r):Quiet P hp o arg (.d r):=by
 obtain ⟨e1,e2⟩:=ON hr
 rw [e1]
 exact Quiet.extract hop hx e2
theorem Sp {x : Operand} {S:TypeId} {fs:Array Field} {f n b n' b' T:Nat} {fd:Field} {d:TypeDesc} {z z':Value} {ds r:List D} (hop:o.op = .fieldAddr S x f) (hx:arg x = .d (Iu T ds)) (hS:Tab P S (.struct fs) n b z) (hf:fs[f]? = some fd) (he:Tab P fd.type d n' b' z') (hn:Nat.beq n' 0 = false) (hr:LU fd.offset ds = some r):Quiet P hp o arg (.d (Iu T r)):=by
 obtain ⟨e1,e2⟩:=LT hr
 rw [e1]
 exact Pe hop hx hS hf he (Nat.ne_of_beq_eq_false hn)
theorem So {x : Operand} {S:TypeId} {fs:Array Field} {f n b n' b' id off:Nat} {fd:Field} {d:TypeDesc} {z z':Value} (hop:o.op = .fieldAddr S x f) (hx:arg x = .ptr id off) (hS:Tab P S (.struct fs) n b z) (hf:fs[f]? = some fd) (he:Tab P fd.type d n' b' z') (hn:Nat.beq n' 0 = false):Quiet P hp o arg (.ptr id (off+fd.offset)) :=
 Pd hop hx hS hf he (Nat.ne_of_beq_eq_false hn)
end
def EQ : BinOp→Int→Int→Prop
 | .eql,a,b=>a = b
 | .neq,a,b=>a ≠ b
 | .lss,a,b=>a<b
 | .leq,a,b=>a≤b
 | .gtr,a,b=>b<a
 | .geq,a,b=>b≤a
 | _,_,_=>False
def Nt : BinOp→Bool
 | .eql | .neq | .lss | .leq | .gtr | .geq=>true
 | _=>false
section
variable {P : Program} {hp:List Ow} {o:Oper} {arg:Operand→AV}
theorem Ss {op : BinOp} {T U:TypeId} {x y:Operand} {k:IntKind} {a b:Int} (hop:o.op = .binOp op T x y U) (hb:Nt op = true) (hx:arg x = .d (ex (.int k a))) (hy:arg y = .d (ex (.int k b))) (hc:EQ op a b):Quiet P hp o arg (.d (ex (.bool true))):=by
 refine JZ hop hx hy ?_
 cases op <;> first | (simp only [EQ] at hc;simp [Qo,hc];done) | (simp only [EQ] at hc;simp [Qo];omega) | exact absurd hb (by decide)
theorem Su {op : BinOp} {T U:TypeId} {x y:Operand} {k:IntKind} {a b:Int} (hop:o.op = .binOp op T x y U) (hb:Nt op = true) (hx:arg x = .d (ex (.int k a))) (hy:arg y = .d (ex (.int k b))) (hc:¬ EQ op a b):Quiet P hp o arg (.d (ex (.bool false))):=by
 refine JZ hop hx hy ?_
 cases op <;> first | (simp only [EQ] at hc;simp [Qo,hc];done) | (simp only [EQ] at hc;simp [Qo];omega) | exact absurd hb (by decide)
theorem Pc {α : Type} {x y:Operand} {t:TypeId} {e n b n' b' T sz:Nat} {d:TypeDesc} {z z':Value} {f:α→List D} {a:α} {l:List α} {κ:IntKind} (hop:o.op = .indexAddr t x y) (hx:Et hp (arg x) = some (slD T sz ((a :: l).map f))) (hy:arg y = .d (ex (.int κ 0))) (ht:Tab P t (.slice e) n b z) (he:Tab P e d n' b' z') (hsz:n' = sz):Quiet P hp o arg (.d (Iu T (f a))) :=
 Quiet.index (P:=P) (hp:=hp) hop hx hy ht he hsz (by omega) (by simp)
theorem QS {α : Type} {x y:Operand} {t:TypeId} {e n b n' b' T sz i:Nat} {d:TypeDesc} {z z':Value} {f:α→List D} {l:List α} (hop:o.op = .slice t x (some y) none none) (hx:Et hp (arg x) = some (slD T sz (l.map f))) (hy:arg y = .d (ex (.int .i64 (i:Nat)))) (ht:Tab P t (.slice e) n b z) (he:Tab P e d n' b' z') (hsz:n' = sz) (hi:i≤l.length):Quiet P hp o arg (.d (slD T sz ((l.drop i).map f))):=by
 have h:=Quiet.slice (P:=P) (hp:=hp) (i:=(i:Nat)) (j:=((l.map f).length:Nat)) hop hx ht he hsz (.inl ⟨y,rfl,hy⟩) (.inr ⟨rfl,rfl⟩) (by omega) (by simp;omega) (by omega)
 have e1:((l.map f).take (((l.map f).length:Nat):Int).toNat).drop ((i:Nat):Int).toNat = (l.drop i).map f:=by
  rw [show (((l.map f).length:Nat):Int).toNat = (l.map f).length from rfl,List.take_length,List.map_drop]
  rfl
 rwa [e1] at h
theorem QN {α : Type} {x y:Operand} {t:TypeId} {e n b n' b' T sz:Nat} {d:TypeDesc} {z z':Value} {f:α→List D} {a:α} {l:List α} (hop:o.op = .slice t x (some y) none none) (hx:Et hp (arg x) = some (slD T sz ((a :: l).map f))) (hy:arg y = .d (ex (.int .i64 1))) (ht:Tab P t (.slice e) n b z) (he:Tab P e d n' b' z') (hsz:n' = sz):Quiet P hp o arg (.d (slD T sz (l.map f))) :=
 QS (l:=a :: l) (i:=1) hop hx hy ht he hsz (by simp)
theorem QM {α : Type} {x y:Operand} {t:TypeId} {e n b n' b' T sz i:Nat} {d:TypeDesc} {z z':Value} {f:α→List D} {l:List α} (hop:o.op = .slice t x none (some y) none) (hx:Et hp (arg x) = some (slD T sz (l.map f))) (hy:arg y = .d (ex (.int .i64 (i:Nat)))) (ht:Tab P t (.slice e) n b z) (he:Tab P e d n' b' z') (hsz:n' = sz) (hi:i≤l.length):Quiet P hp o arg (.d (slD T sz ((l.take i).map f))):=by
 have h:=Quiet.slice (P:=P) (hp:=hp) (i:=0) (j:=(i:Nat)) hop hx ht he hsz (.inr ⟨rfl,rfl⟩) (.inl ⟨y,rfl,hy⟩) (by omega) (by omega) (by simp;omega)
 have e1:((l.map f).take ((i:Nat):Int).toNat).drop ((0:Nat):Int).toNat = (l.take i).map f:=by
  show ((l.map f).take i).drop 0 = _
  rw [List.drop_zero,List.map_take]
 exact e1 ▸ h
end
theorem Dn {α : Type} (f:α→List D) (l:List α) (a:α):l.map f ++ [f a] = (l ++ [a]).map f:=by simp
theorem A0Y {P : Program} {s0:An} {n:Nat} {ops:Array Oper} {Q:Exit→AS→Prop} {rest:List Oper} {o:Oper} {fr:List (Nat × AV)} {hp:List Ow} {d:Nat} (hdst:o.dst = some d) (hg:o.guard = none) (hs:Ca o.op = true) (hd:Nat.blt d n = true) (h:∃ r,Quiet P hp o (AS.arg ⟨fr,hp⟩) r∧AWl P s0 n ops Q rest ⟨(d,r) :: fr,hp⟩):AWl P s0 n ops Q (o :: rest) ⟨fr,hp⟩:=by
 obtain ⟨r,h1,h2⟩:=h
 exact A1q hdst hg hs hd h1 h2
theorem ZQ {P : Program} {s0:An} {n:Nat} {ops:Array Oper} {Q:Exit→AS→Prop} {rest:List Oper} {o:Oper} {fr:List (Nat × AV)} {hp:List Ow} {d:Nat} {j:Nat} {b:Bool} {e:Nat} (hg:o.guard = some (j,b)) (hy:(ops[j]?).bind (·.dst) = some e) (hl:CG fr e = some (.d (ex (.bool b)))) (hen:Nat.blt e n = true) (hdst:o.dst = some d) (hs:Ca o.op = true) (hd:Nat.blt d n = true) (h:∃ r,Quiet P hp o (AS.arg ⟨fr,hp⟩) r∧AWl P s0 n ops Q rest ⟨(d,r) :: fr,hp⟩):AWl P s0 n ops Q (o :: rest) ⟨fr,hp⟩:=by
 obtain ⟨r,h1,h2⟩:=h
 exact A0X hg hy hl hen hdst hs hd h1 h2
def Kc : List HR→HR→Option (List HR)
 | [],x=>some [x]
 | o :: l,x=>match Kc l x with
  | some r=>some (o :: r)
  | none=>none
theorem Pz : ∀ {l:List HR} {x:HR} {r:List HR},Kc l x = some r→r = l ++ [x]
 | [],x,r,h=>by cases h;rfl
 | o :: l,x,r,h=>by
  unfold Kc at h
  split at h
  ·rename_i r' h'
   cases h
   rw [Pz h']
   rfl
  ·cases h
def HS (P : Program) (σ:AS) (K:List HR→Prop):List HR→List Oper→List (List (Nat × Nat))→Prop
 | acc,_,[]=>K acc
 | acc,o :: L,e :: es=>∃ r,HStep P σ acc e o r∧∃ acc',Kc acc r = some acc'∧HS P σ K acc' L es
 | _,[],_ :: _=>False
def Jp : Nat→List Oper→List (List (Nat × Nat))→Bool
 | _,_,[]=>true
 | i,o :: L,e :: es=>e.all (fun p=>Nat.blt p.2 i) && (match o.guard with | some (j,_)=>Nat.blt j i | none=>true) && Jp (i+1) L es
 | _,[],_ :: _=>false
theorem NH {σ : AS} {acc more:List HR} {es:List (Nat × Nat)} (h:∀ p∈es,p.2<acc.length):Mk σ (acc ++ more) es = Mk σ acc es:=by
 funext x
 cases x with
 | tmp t =>
  show (match es.find? (fun p=>p.1 == t) with
   | some p=>match (acc ++ more)[p.2]? with
    | some h=>h.val
    | none=>.d Ds
   | none=>_) = (match es.find? (fun p=>p.1 == t) with
   | some p=>match acc[p.2]? with
    | some h=>h.val
    | none=>.d Ds
   | none=>_)
  cases hf:es.find? (fun p=>p.1 == t) with
  | none=>rfl
  | some p =>
   simp only
   rw [List.getElem?_append_left (h p (List.mem_of_find?_eq_some hf))]
 | const v=>rfl
 | global g=>rfl
 | func f=>rfl
theorem HStep.more {P : Program} {σ:AS} {acc more:List HR} {e:List (Nat × Nat)} {o:Oper} {r:HR} (h:HStep P σ acc e o r) (he:∀ p∈e,p.2<acc.length) (hg:∀ j b,o.guard = some (j,b)→j<acc.length):HStep P σ (acc ++ more) e o r:=by
 cases r with
 | av r =>
  rcases h with ⟨h1,h2⟩ | ⟨j,b,c,h1,h2,h3⟩
  ·exact .inl ⟨h1,by rw [NH he];exact h2⟩
  ·refine .inr ⟨j, b, c, h1, by rw [List.getElem?_append_left (hg j b h1)]; exact h2, ?_⟩
   rw [NH he]
   exact h3
 | new T cs=>exact h
theorem Rb {P : Program} {σ:AS} {K:List HR→Prop}:∀ {es:List (List (Nat × Nat))} {L:List Oper} {acc:List HR},Jp acc.length L es = true→HS P σ K acc L es→∃ more,more.length = es.length∧HSteps P σ (acc ++ more) L es more∧K (acc ++ more)
 | [],L,acc,_,h=>by
  refine ⟨[],rfl,HSteps.nil,?_⟩
  rw [List.append_nil]
  cases L <;> exact h
 | e :: es,[],acc,he,h=>by cases he
 | e :: es,o :: L,acc,he,h=>by
  obtain ⟨r,h1,acc',h2,h3⟩:=h
  have e1:=Pz h2
  subst e1
  simp only [Jp,Bool.and_eq_true] at he
  obtain ⟨⟨he1,he2⟩,he3⟩:=he
  obtain ⟨more,h4,h5,h6⟩:=Rb (acc:=acc ++ [r]) (by simpa using he3) h3
  rw [List.append_assoc,List.singleton_append] at h5 h6
  refine ⟨r :: more,by simp [h4],⟨h1.more (fun p hp=>?_) fun j b hj=>?_,h5⟩,h6⟩
  ·have:=List.all_eq_true.1 he1 p hp
   simpa [Nat.blt_eq] using this
  ·rw [hj] at he2
   simpa [Nat.blt_eq] using he2
theorem Hc {P : Program} {s0:An} {n:Nat} {Q Q0:Exit→AS→Prop} {fr:List (Nat × AV)} {hp:List Ow} {id:Nat} {L0:Array Oper} {L:List Oper} (hm:DrawOk P s0 n id L0 L Q0 Q) (es:List (List (Nat × Nat))) (bs:List (List Nat)) (hlen:(es.length == bs.length && Nat.ble es.length L.length) = true) (hok:CJ L (DT 0 es bs) = true) (hd:EL L es.length n = true) (hlt:Jp 0 L es = true)
  (h:HS P ⟨fr,hp⟩ (fun rs=>∃ τ,OO fr hp es.length L rs = some τ∧AWl P s0 n L.toArray Q (L.drop es.length) τ) [] L es):AWp P s0 n (.region id L0 true) Q0 ⟨fr,hp⟩:=by
 obtain ⟨rs,h1,h2,τ,h3,h4⟩:=Rb (acc:=[]) hlt h
 simp only [List.nil_append] at h2 h3
 simp only [Bool.and_eq_true,beq_iff_eq] at hlen
 exact AWp.dr hm es bs rs (by simp only [Bool.and_eq_true,beq_iff_eq];exact ⟨⟨hlen.1,h1.symm⟩,by rw [h1];exact hlen.2⟩) hok hd h2 (by rw [h1];exact h3) h4
section
variable {P : Program} {hp:List Ow} {arg:Operand→AV} {dd:Option Tmp} {ty:TypeId} {ps:String} {af:Array Edge} {gd:Option (Nat × Bool)}
theorem A0G {x : Operand} {t:TypeId} {e n b T sz:Nat} {z:Value} {rows:List (List D)} (hx:Et hp (arg x) = some (slD T sz rows)) (ht:Tab P t (.slice e) n b z):Quiet P hp ⟨dd,.call { callee:=.builtin .len,args:=#[x],argTypes:=#[t] },ty,ps,af,gd⟩ arg (.d (ex (.int .i64 rows.length))):=Quiet.len (o:=⟨dd,.call { callee:=.builtin .len,args:=#[x],argTypes:=#[t] },ty,ps,af,gd⟩) rfl hx ht
theorem Ju {α : Type} {x:Operand} {t:TypeId} {e n b T sz:Nat} {z:Value} {f:α→List D} {l:List α} (hx:Et hp (arg x) = some (slD T sz (l.map f))) (ht:Tab P t (.slice e) n b z):Quiet P hp ⟨dd,.call { callee:=.builtin .len,args:=#[x],argTypes:=#[t] },ty,ps,af,gd⟩ arg (.d (ex (.int .i64 (l.length:Nat)))):=Sl (o:=⟨dd,.call { callee:=.builtin .len,args:=#[x],argTypes:=#[t] },ty,ps,af,gd⟩) rfl hx ht
theorem VD {α : Type} {x y:Operand} {t:TypeId} {e n b n' b' T sz:Nat} {d:TypeDesc} {z z':Value} {f:α→List D} {a:α} {l:List α} {κ:IntKind} (hx:Et hp (arg x) = some (slD T sz ((a :: l).map f))) (hy:arg y = .d (ex (.int κ 0))) (ht:Tab P t (.slice e) n b z) (he:Tab P e d n' b' z') (hsz:n' = sz):Quiet P hp ⟨dd,.indexAddr t x y,ty,ps,af,gd⟩ arg (.d (Iu T (f a))):=Pc (o:=⟨dd,.indexAddr t x y,ty,ps,af,gd⟩) rfl hx hy ht he hsz
theorem XU {α : Type} {x y:Operand} {t:TypeId} {e n b n' b' T sz:Nat} {d:TypeDesc} {z z':Value} {f:α→List D} {a:α} {l:List α} (hx:Et hp (arg x) = some (slD T sz ((a :: l).map f))) (hy:arg y = .d (ex (.int .i64 1))) (ht:Tab P t (.slice e) n b z) (he:Tab P e d n' b' z') (hsz:n' = sz):Quiet P hp ⟨dd,.slice t x (some y) none none,ty,ps,af,gd⟩ arg (.d (slD T sz (l.map f))):=QN (o:=⟨dd,.slice t x (some y) none none,ty,ps,af,gd⟩) rfl hx hy ht he hsz
theorem XT {α : Type} {x y:Operand} {t:TypeId} {e n b n' b' T sz i:Nat} {d:TypeDesc} {z z':Value} {f:α→List D} {l:List α} (hx:Et hp (arg x) = some (slD T sz (l.map f))) (hy:arg y = .d (ex (.int .i64 (i:Nat)))) (ht:Tab P t (.slice e) n b z) (he:Tab P e d n' b' z') (hsz:n' = sz) (hi:i≤l.length):Quiet P hp ⟨dd,.slice t x none (some y) none,ty,ps,af,gd⟩ arg (.d (slD T sz ((l.take i).map f))):=QM (o:=⟨dd,.slice t x none (some y) none,ty,ps,af,gd⟩) rfl hx hy ht he hsz hi
theorem DK {α : Type} [Inhabited α] {x y:Operand} {t:TypeId} {e n b n' b' T sz k:Nat} {d:TypeDesc} {z z':Value} {f:α→List D} {l:List α} {κ:IntKind} (hx:Et hp (arg x) = some (slD T sz (l.map f))) (hy:arg y = .d (ex (.int κ (k:Nat)))) (ht:Tab P t (.slice e) n b z) (he:Tab P e d n' b' z') (hsz:n' = sz) (hk:k<l.length):Quiet P hp ⟨dd,.indexAddr t x y,ty,ps,af,gd⟩ arg (.d (Iu T (f (l.getD k default)))):=Pb (o:=⟨dd,.indexAddr t x y,ty,ps,af,gd⟩) rfl hx hy ht he hsz hk
theorem A0L {T U:TypeId} {x y:Operand} {a b:Int} (hx:arg x = .d (ex (.int .i64 a))) (hy:arg y = .d (ex (.int .i64 b))) (h1:-9223372036854775808≤a+b) (h2:a+b≤9223372036854775807):Quiet P hp ⟨dd,.binOp .add T x y U,ty,ps,af,gd⟩ arg (.d (ex (.int .i64 (a+b)))):=Quiet.add (o:=⟨dd,.binOp .add T x y U,ty,ps,af,gd⟩) rfl hx hy h1 h2
theorem A0E {T U:TypeId} {x y:Operand} {a b:Int} (hx:arg x = .d (ex (.int .i64 a))) (hy:arg y = .d (ex (.int .i64 b))) (h1:-9223372036854775808≤a*b) (h2:a*b≤9223372036854775807):Quiet P hp ⟨dd,.binOp .mul T x y U,ty,ps,af,gd⟩ arg (.d (ex (.int .i64 (a*b)))):=Quiet.mul (o:=⟨dd,.binOp .mul T x y U,ty,ps,af,gd⟩) rfl hx hy h1 h2
theorem TD {T U:TypeId} {x y:Operand} {a:Nat} (hx:arg x = .d (ex (.int .i64 (a:Nat)))) (hy:arg y = .d (ex (.int .i64 1))) (h1:(a:Int)<9223372036854775807):Quiet P hp ⟨dd,.binOp .add T x y U,ty,ps,af,gd⟩ arg (.d (ex (.int .i64 ((a+1:Nat):Int)))):=Si (o:=⟨dd,.binOp .add T x y U,ty,ps,af,gd⟩) rfl hx hy h1
theorem A0C {T U:TypeId} {x y:Operand} {k:IntKind} {a b:Int} (hx:arg x = .d (ex (.int k a))) (hy:arg y = .d (ex (.int k b))) (h0:0≤a) (hb:0<b):Quiet P hp ⟨dd,.binOp .rem T x y U,ty,ps,af,gd⟩ arg (.d (ex (.int k (a % b)))):=Quiet.rem (o:=⟨dd,.binOp .rem T x y U,ty,ps,af,gd⟩) rfl hx hy h0 hb
theorem Pf {T U:TypeId} {x y:Operand} {k:IntKind} {a b:Int} (hx:arg x = .d (ex (.int k a))) (hy:arg y = .d (ex (.int k b))) (hb:b ≠ 0):Quiet P hp ⟨dd,.binOp .rem T x y U,ty,ps,af,gd⟩ arg (.d (ex (.int k (a.tmod b)))):=Sj (o:=⟨dd,.binOp .rem T x y U,ty,ps,af,gd⟩) rfl hx hy hb
theorem A0K {op : BinOp} {T U:TypeId} {x y:Operand} {k:IntKind} {a b:Int} {c:Bool} (hx:arg x = .d (ex (.int k a))) (hy:arg y = .d (ex (.int k b))) (hc:Qo op a b = some c):Quiet P hp ⟨dd,.binOp op T x y U,ty,ps,af,gd⟩ arg (.d (ex (.bool c))):=JZ (o:=⟨dd,.binOp op T x y U,ty,ps,af,gd⟩) rfl hx hy hc
theorem TF {op : BinOp} {T U:TypeId} {x y:Operand} {k:IntKind} {a b:Int} (hb:Nt op = true) (hx:arg x = .d (ex (.int k a))) (hy:arg y = .d (ex (.int k b))) (hc:EQ op a b):Quiet P hp ⟨dd,.binOp op T x y U,ty,ps,af,gd⟩ arg (.d (ex (.bool true))):=Ss (o:=⟨dd,.binOp op T x y U,ty,ps,af,gd⟩) rfl hb hx hy hc
theorem Pi {op : BinOp} {T U:TypeId} {x y:Operand} {k:IntKind} {a b:Int} (hb:Nt op = true) (hx:arg x = .d (ex (.int k a))) (hy:arg y = .d (ex (.int k b))) (hc:¬ EQ op a b):Quiet P hp ⟨dd,.binOp op T x y U,ty,ps,af,gd⟩ arg (.d (ex (.bool false))):=Su (o:=⟨dd,.binOp op T x y U,ty,ps,af,gd⟩) rfl hb hx hy hc
theorem A0D {T : TypeId} {x:Operand} {a:Bool} (hx:arg x = .d (ex (.bool a))):Quiet P hp ⟨dd,.unOp .not T x,ty,ps,af,gd⟩ arg (.d (ex (.bool (!a)))):=Quiet.not (o:=⟨dd,.unOp .not T x,ty,ps,af,gd⟩) rfl hx
theorem XV {c x y:Operand} {r:AV} (hx:arg x = r) (hc:arg c = .d (ex (.bool true))):Quiet P hp ⟨dd,.pick c x y,ty,ps,af,gd⟩ arg r:=QO (o:=⟨dd,.pick c x y,ty,ps,af,gd⟩) rfl hx hc
theorem XW {c x y:Operand} {r:AV} (hy:arg y = r) (hc:arg c = .d (ex (.bool false))):Quiet P hp ⟨dd,.pick c x y,ty,ps,af,gd⟩ arg r:=QP (o:=⟨dd,.pick c x y,ty,ps,af,gd⟩) rfl hy hc
theorem Zz {S T:TypeId} {x:Operand} {k k':IntKind} {a:Int} {d:TypeDesc} {n b n' b':Nat} {z z':Value} (hx:arg x = .d (ex (.int k a))) (hS:Tab P S d n b z) (hT:Tab P T (.int k') n' b' z'):Quiet P hp ⟨dd,.convert S T x,ty,ps,af,gd⟩ arg (.d (ex (.int k' (k'.wrap a)))):=Sr (o:=⟨dd,.convert S T x,ty,ps,af,gd⟩) rfl hx hS hT
theorem TE {x : Operand} {S:TypeId} {fs:Array Field} {f n b n' b' T:Nat} {fd:Field} {d:TypeDesc} {z z':Value} {ds r:List D} (hx:arg x = .d (Iu T ds)) (hS:Tab P S (.struct fs) n b z) (hf:fs[f]? = some fd) (he:Tab P fd.type d n' b' z') (hn:Nat.beq n' 0 = false) (hr:LU fd.offset ds = some r):Quiet P hp ⟨dd,.fieldAddr S x f,ty,ps,af,gd⟩ arg (.d (Iu T r)):=Sp (o:=⟨dd,.fieldAddr S x f,ty,ps,af,gd⟩) rfl hx hS hf he hn hr
theorem Zy {x : Operand} {S:TypeId} {fs:Array Field} {f n b n' b' id off:Nat} {fd:Field} {d:TypeDesc} {z z':Value} (hx:arg x = .ptr id off) (hS:Tab P S (.struct fs) n b z) (hf:fs[f]? = some fd) (he:Tab P fd.type d n' b' z') (hn:Nat.beq n' 0 = false):Quiet P hp ⟨dd,.fieldAddr S x f,ty,ps,af,gd⟩ arg (.ptr id (off+fd.offset)):=So (o:=⟨dd,.fieldAddr S x f,ty,ps,af,gd⟩) rfl hx hS hf he hn
theorem A0I {x : Operand} {t:TypeId} {d:TypeDesc} {n b T id off:Nat} {z:Value} {ds r:List D} (hx:arg x = .ptr id off) (hh:hp[id]? = some (.var T (ds.map .d))) (ht:Tab P t d n b z) (hd:DP d = true) (hr:Wo off n ds = some r):Quiet P hp ⟨dd,.load t x,ty,ps,af,gd⟩ arg (.d (BF r)):=VA (o:=⟨dd,.load t x,ty,ps,af,gd⟩) rfl hx hh ht hd hr
theorem Zx {x : Operand} {t:TypeId} {d:TypeDesc} {n b T id off:Nat} {z:Value} {ds:List D} {r:D} (hx:arg x = .ptr id off) (hh:hp[id]? = some (.var T (ds.map .d))) (ht:Tab P t d n b z) (hd:DP d = false) (hr:XD off ds = some r):Quiet P hp ⟨dd,.load t x,ty,ps,af,gd⟩ arg (.d r):=Sn (o:=⟨dd,.load t x,ty,ps,af,gd⟩) rfl hx hh ht hd hr
theorem NQ {x : Operand} {t:TypeId} {d:TypeDesc} {n b T:Nat} {z:Value} {ds:List D} (hx:arg x = .d (Iu T ds)) (ht:Tab P t d n b z) (hd:DP d = true) (hn:ds.length = n):Quiet P hp ⟨dd,.load t x,ty,ps,af,gd⟩ arg (.d (BF ds)):=OY (o:=⟨dd,.load t x,ty,ps,af,gd⟩) rfl hx ht hd hn
theorem XX {x : Operand} {t:TypeId} {d:TypeDesc} {n b T:Nat} {z:Value} {ds r:List D} (hx:arg x = .d (Iu T ds)) (ht:Tab P t d n b z) (hd:DP d = true) (hr:Ld n ds = some r):Quiet P hp ⟨dd,.load t x,ty,ps,af,gd⟩ arg (.d (BF r)):=Vz (o:=⟨dd,.load t x,ty,ps,af,gd⟩) rfl hx ht hd hr
theorem Zw {x : Operand} {t:TypeId} {d:TypeDesc} {n b T:Nat} {z:Value} {ds:List D} {r:D} (hx:arg x = .d (Iu T ds)) (ht:Tab P t d n b z) (hd:DP d = false) (hr:XD 0 ds = some r):Quiet P hp ⟨dd,.load t x,ty,ps,af,gd⟩ arg (.d r):=Sm (o:=⟨dd,.load t x,ty,ps,af,gd⟩) rfl hx ht hd hr
theorem Sw {x : Operand} {i:Nat} {ds:List D} {r:D} (hx:arg x = .d (Da ds)) (hr:XD i ds = some r):Quiet P hp ⟨dd,.extract x i,ty,ps,af,gd⟩ arg (.d r):=Quiet.ext (o:=⟨dd,.extract x i,ty,ps,af,gd⟩) rfl hx hr
theorem XY {t : TypeId} {fs:Array Field} {n b:Nat} {z:Value} {parts:List (Nat × Operand)} {pl:List (Nat × Nat)} {r:List (Nat × List D)} {ds:List D} (ht:Tab P t (.struct fs) n b z) (hpl:FieldsT P fs.toList pl) (h1:Gd z.cells.toList = true) (hr:PartsA hp arg parts r) (hf:Fx (fun i=>pl[i]?) (OH z.cells.toList) r = some ds):Quiet P hp ⟨dd,.build t parts.toArray,ty,ps,af,gd⟩ arg (.d (BF ds)):=Quiet.build (o:=⟨dd,.build t parts.toArray,ty,ps,af,gd⟩) rfl ht hpl h1 hr hf
theorem QW {t e:TypeId} {len n b n' b':Nat} {z z':Value} {d:TypeDesc} {parts:List (Nat × Operand)} {r:List (Nat × List D)} {ds:List D} (ht:Tab P t (.array len e) n b z) (he:Tab P e d n' b' z') (h1:Gd z.cells.toList = true) (hr:PartsA hp arg parts r) (hf:Fx (fun i=>some (i*n',n')) (OH z.cells.toList) r = some ds):Quiet P hp ⟨dd,.build t parts.toArray,ty,ps,af,gd⟩ arg (.d (BF ds)):=Mx (o:=⟨dd,.build t parts.toArray,ty,ps,af,gd⟩) rfl ht he h1 hr hf
theorem Iw {t e:TypeId} {len n b n' b':Nat} {z z':Value} {d:TypeDesc} {parts:List (Nat × Operand)} {r:List (Nat × List D)} {ds:List D} (ht:Tab P t (.slice e) n b z) (he:Tab P e d n' b' z') (hlen:0<len) (hn:0<n') (hz:z'.cells.size = n') (h24:len*n'≤16777216) (h1:Gd z'.cells.toList = true) (hr:PartsA hp arg parts r) (hf:Fx (fun i=>some (i*n',n')) (List.replicate (len*n') Ds) r = some ds):Quiet P hp ⟨dd,.buildSlice t len parts.toArray,ty,ps,af,gd⟩ arg (.d (slD e n' (FA n' len ds))):=Quiet.buildSlice (o:=⟨dd,.buildSlice t len parts.toArray,ty,ps,af,gd⟩) rfl ht he hlen hn hz h24 h1 hr hf
theorem A0F {x y:Operand} {tys:Array TypeId} {k:IntKind} {a b:Int} (hx:arg x = .d (ex (.int k a))) (hy:arg y = .d (ex (.int k b))):Quiet P hp ⟨dd,.call { callee:=.builtin .max,args:=#[x,y],argTypes:=tys },ty,ps,af,gd⟩ arg (.d (ex (.int k (Max.max a b)))):=Quiet.max (o:=⟨dd,.call { callee:=.builtin .max,args:=#[x,y],argTypes:=tys },ty,ps,af,gd⟩) rfl hx hy
theorem KR {f : Operand} {args:List Operand} {tys:Array TypeId} {fid:FuncId} {ds:List D} {r:D} (hf:arg f = .d (ex (.func (.func fid) #[] #[]))) (hc:Abs P fid ds r) (ha:ArgsLe hp arg args ds):Quiet P hp ⟨dd,.call { callee:=.value f,args:=args.toArray,argTypes:=tys },ty,ps,af,gd⟩ arg (.d r):=Quiet.call (o:=⟨dd,.call { callee:=.value f,args:=args.toArray,argTypes:=tys },ty,ps,af,gd⟩) rfl hf hc ha
theorem GW {x : Operand} {r:AV} (hx:arg x = r):Quiet P hp ⟨dd,.move x,ty,ps,af,gd⟩ arg r:=Quiet.move (.inl rfl) hx
theorem Fj {x : Operand} {r:AV} (hx:arg x = r):Quiet P hp ⟨dd,.assign x,ty,ps,af,gd⟩ arg r:=Quiet.move (.inr rfl) hx
end
section
variable {P : Program} {s0:An} {n:Nat} {ops:Array Oper} {Q:Exit→AS→Prop} {rest:List Oper} {fr:List (Nat × AV)} {hp:List Ow} {ty:TypeId} {ps:String} {af:Array Edge}
theorem A0V {T : TypeId} {d:TypeDesc} {m b k t:Nat} {z:Value} {c:List D} {hp':List Ow} (ht:Tab P T d m b z) (hT:Nat.beq T 139 = false) (h1:Gd z.cells.toList = true) (hd:Nat.blt t n = true) (hc:Zb z.cells.toList = some c) (hk:GM hp = some k) (hs:DS hp (.var T (c.map .d)) = some hp') (h:AWl P s0 n ops Q rest ⟨(t,.ptr k 0) :: fr,hp'⟩):AWl P s0 n ops Q (⟨some t,.alloc T,ty,ps,af,none⟩ :: rest) ⟨fr,hp⟩:=A13 (o:=⟨some t,.alloc T,ty,ps,af,none⟩) rfl rfl rfl ht hT h1 hd hc hk hs h
theorem A0U {T : TypeId} {x:Operand} {ds:List D} {k t:Nat} {hp':List Ow} (hx:AS.arg ⟨fr,hp⟩ x = .d (BF ds)) (hT:Nat.beq T 139 = false) (hd:Nat.blt t n = true) (hk:GM hp = some k) (hs:DS hp (.var T (ds.map .d)) = some hp') (h:AWl P s0 n ops Q rest ⟨(t,.ptr k 0) :: fr,hp'⟩):AWl P s0 n ops Q (⟨some t,.box T x,ty,ps,af,none⟩ :: rest) ⟨fr,hp⟩:=A0Z (o:=⟨some t,.box T x,ty,ps,af,none⟩) rfl rfl rfl hx hT hd hk hs h
theorem ZI {T T0:TypeId} {d:TypeDesc} {b id m:Nat} {z:Value} {x y:Operand} {cells:List AV} {ds:List D} {hp':List Ow} (hx:AS.arg ⟨fr,hp⟩ x = .ptr id 0) (hy:AS.arg ⟨fr,hp⟩ y = .d (BF ds)) (hh:hp[id]? = some (.var T0 cells)) (ht:Tab P T d m b z) (hm:ds.length = m) (hoff:cells.length = m) (hs:Db hp id (.var T0 (ds.map .d)) = some hp') (h:AWl P s0 n ops Q rest ⟨fr,hp'⟩):AWl P s0 n ops Q (⟨none,.store T x y,ty,ps,af,none⟩ :: rest) ⟨fr,hp⟩:=ZP (o:=⟨none,.store T x y,ty,ps,af,none⟩) rfl rfl rfl hx hy hh ht hm hoff hs h
theorem Ri {T T0:TypeId} {d:TypeDesc} {b id off:Nat} {z:Value} {x y:Operand} {cs cs':List D} {u:D} {hp':List Ow} (hx:AS.arg ⟨fr,hp⟩ x = .ptr id off) (hy:AS.arg ⟨fr,hp⟩ y = .d u) (hh:hp[id]? = some (.var T0 (cs.map .d))) (ht:Tab P T d 1 b z) (h1:One hp (.d u)) (hc:Rr cs off [u] = some cs') (hs:Db hp id (.var T0 (cs'.map .d)) = some hp') (h:AWl P s0 n ops Q rest ⟨fr,hp'⟩):AWl P s0 n ops Q (⟨none,.store T x y,ty,ps,af,none⟩ :: rest) ⟨fr,hp⟩:=Yt (o:=⟨none,.store T x y,ty,ps,af,none⟩) rfl rfl rfl hx hy hh ht h1 hc hs h
theorem ZL {x y:Operand} {t T T2 sz bytes id m b e:Nat} {z z':Value} {d:TypeDesc} {rows r2:List (List D)} {fr':List (Nat × AV)} {hp':List Ow} (hx:AS.arg ⟨fr,hp⟩ x = .own id) (hy:Et hp (AS.arg ⟨fr,hp⟩ y) = some (slD T2 sz r2)) (hh:hp[id]? = some (.row T sz rows)) (ht:Tab P t (.slice T) m b z') (hT:Tab P T d sz bytes z) (hzs:z.cells.size = sz) (hd:Nat.blt e n = true) (hbytes:(rows.length+r2.length)*bytes≤140737488355328) (h63:rows.length+r2.length≤4611686018427387904) (hf:DN id (slD T sz rows) fr = some fr') (hpl:PlainHp id hp) (hs:Db hp id (.row T sz (rows ++ r2)) = some hp') (h:AWl P s0 n ops Q rest ⟨(e,.own id) :: fr',hp'⟩):AWl P s0 n ops Q (⟨some e,.call { callee:=.builtin .append,args:=#[x,y],argTypes:=#[t,t] },ty,ps,af,none⟩ :: rest) ⟨fr,hp⟩:=AWl.app (o:=⟨some e,.call { callee:=.builtin .append,args:=#[x,y],argTypes:=#[t,t] },ty,ps,af,none⟩) rfl rfl rfl hx hy hh ht hT hzs hd hbytes h63 hf hpl hs h
theorem EA {t T m b sz bytes k e:Nat} {z z':Value} {d:TypeDesc} {hp':List Ow} (ht:Tab P t (.slice T) m b z') (hT:Tab P T d sz bytes z) (hT32:Nat.beq T 139 = false) (h0:Nat.blt 0 sz = true) (hd:Nat.blt e n = true) (hk:GM hp = some k) (hs:DS hp (.row T sz []) = some hp') (h:AWl P s0 n ops Q rest ⟨(e,.own k) :: fr,hp'⟩):AWl P s0 n ops Q (⟨some e,.buildSlice t 0 #[],ty,ps,af,none⟩ :: rest) ⟨fr,hp⟩:=A12 (o:=⟨some e,.buildSlice t 0 #[],ty,ps,af,none⟩) rfl rfl rfl ht hT hT32 h0 hd hk hs h
theorem TN {t T m b sz bytes k e:Nat} {z z':Value} {d:TypeDesc} {x y:Operand} {c:Int} {hp':List Ow} (hx:AS.arg ⟨fr,hp⟩ x = .d (ex (.int .i64 0))) (hy:AS.arg ⟨fr,hp⟩ y = .d (ex (.int .i64 c))) (ht:Tab P t (.slice T) m b z') (hT:Tab P T d sz bytes z) (hc0:0≤c) (hc:c≤1000000000) (hbytes:Nat.ble bytes 65536 = true) (hT32:Nat.beq T 139 = false) (h0:Nat.blt 0 sz = true) (hd:Nat.blt e n = true) (hk:GM hp = some k) (hs:DS hp (.row T sz []) = some hp') (h:AWl P s0 n ops Q rest ⟨(e,.own k) :: fr,hp'⟩):AWl P s0 n ops Q (⟨some e,.makeSlice t x y,ty,ps,af,none⟩ :: rest) ⟨fr,hp⟩:=ZR (o:=⟨some e,.makeSlice t x y,ty,ps,af,none⟩) rfl rfl rfl hx hy ht hT hc0 hc hbytes hT32 h0 hd hk hs h
theorem Cz {d : Nat} {op:Op} (hs:Ca op = true) (hd:Nat.blt d n = true) (h:∃ r,Quiet P hp ⟨some d,op,ty,ps,af,none⟩ (AS.arg ⟨fr,hp⟩) r∧AWl P s0 n ops Q rest ⟨(d,r) :: fr,hp⟩):AWl P s0 n ops Q (⟨some d,op,ty,ps,af,none⟩ :: rest) ⟨fr,hp⟩:=A0Y rfl rfl hs hd h
theorem HV {d : Nat} {op:Op} {j:Nat} {b:Bool} {e:Nat} (hy:(ops[j]?).bind (·.dst) = some e) (hl:CG fr e = some (.d (ex (.bool b)))) (hen:Nat.blt e n = true) (hs:Ca op = true) (hd:Nat.blt d n = true) (h:∃ r,Quiet P hp ⟨some d,op,ty,ps,af,some (j,b)⟩ (AS.arg ⟨fr,hp⟩) r∧AWl P s0 n ops Q rest ⟨(d,r) :: fr,hp⟩):AWl P s0 n ops Q (⟨some d,op,ty,ps,af,some (j,b)⟩ :: rest) ⟨fr,hp⟩:=ZQ rfl hy hl hen rfl hs hd h
theorem A0T {d : Nat} {op:Op} {j:Nat} {b:Bool} {u:Value} {e:Nat} (hy:(ops[j]?).bind (·.dst) = some e) (hl:CG fr e = some (.d (ex u))) (hne:ZY u b = false) (hen:Nat.blt e n = true) (hd:Nat.blt d n = true) (h:AWl P s0 n ops Q rest ⟨(d,.d (ex undef)) :: fr,hp⟩):AWl P s0 n ops Q (⟨some d,op,ty,ps,af,some (j,b)⟩ :: rest) ⟨fr,hp⟩:=A0W rfl hy hl hne hen rfl hd h
end
def plO : List Field→Option (List (Nat × Nat))
 | []=>some []
 | f :: l=>match MT SO f.type with
  | some p=>match plO l with
   | some r=>some ((f.offset,p.n) :: r)
   | none=>none
  | none=>none
theorem WP : ∀ {l:List Field} {r:List (Nat × Nat)},plO l = some r→FieldsT Tryz.prog l r
 | [],r,h=>by cases h;exact FieldsT.nil
 | f :: l,r,h=>by
  unfold plO at h
  cases ht:MT SO f.type with
  | none=>rw [ht] at h;cases h
  | some p =>
   rw [ht] at h
   simp only at h
   cases hr:plO l with
   | none=>rw [hr] at h;cases h
   | some r' =>
    rw [hr] at h
    cases h
    obtain ⟨h1,h2⟩:=Lb SS ht
    rw [h1] at h2
    exact FieldsT.cons h2 (WP hr)
def PartOk (hp : List Ow) (av:AV) (es:List D):Prop:=av = .d (BF es)∨∃ y,Et hp av = some y∧One hp av∧es = [y]
theorem AK {hp : List Ow} {av:AV} {es:List D} (h:av = .d (BF es)):PartOk hp av es:=.inl h
theorem PartOk.one {hp : List Ow} {av:AV} {y:D} (h:Et hp av = some y) (h1:One hp av):PartOk hp av [y]:=.inr ⟨y,h,h1,rfl⟩
def SW : List (Nat × List D)→Nat × List D→Option (List (Nat × List D))
 | [],x=>some [x]
 | o :: l,x=>match SW l x with
  | some r=>some (o :: r)
  | none=>none
theorem Py : ∀ {l:List (Nat × List D)} {x:Nat × List D} {r:List (Nat × List D)},SW l x = some r→r = l ++ [x]
 | [],x,r,h=>by cases h;rfl
 | o :: l,x,r,h=>by
  unfold SW at h
  split at h
  ·rename_i r' h'
   cases h
   rw [Py h']
   rfl
  ·cases h
def PC (hp : List Ow) (arg:Operand→AV) (K:List (Nat × List D)→Prop):List (Nat × List D)→List (Nat × Operand)→Prop
 | acc,[]=>K acc
 | acc,(i,x) :: l=>∃ es,PartOk hp (arg x) es∧∃ acc',SW acc (i,es) = some acc'∧PC hp arg K acc' l
theorem Jw {hp : List Ow} {arg:Operand→AV} {K:List (Nat × List D)→Prop}:∀ {l:List (Nat × Operand)} {acc:List (Nat × List D)},PC hp arg K acc l→∃ r,PartsA hp arg l r∧K (acc ++ r)
 | [],acc,h=>⟨[],PartsA.nil,by rw [List.append_nil];exact h⟩
 | (i,x) :: l,acc,⟨es,h1,acc',h2,h3⟩=>by
  have e:=Py h2
  subst e
  obtain ⟨r,h4,h5⟩:=Jw h3
  rw [List.append_assoc,List.singleton_append] at h5
  exact ⟨(i,es) :: r,⟨rfl,h1,h4⟩,h5⟩
def NA (place : Nat→Option (Nat × Nat)):List D→List (Nat × List D)→Option (List D)
 | ds,[]=>some ds
 | ds,(i,es) :: r=>match place i with
  | some (off,size)=>bif Nat.beq es.length size then match Rr ds off es with
   | some ds'=>NA place ds' r
   | none=>none else none
  | none=>none
theorem Jn {place : Nat→Option (Nat × Nat)}:∀ {r:List (Nat × List D)} {ds x:List D},NA place ds r = some x→Fx place ds r = some x
 | [],ds,x,h=>h
 | (i,es) :: r,ds,x,h=>by
  unfold NA at h
  unfold Fx
  cases hp:place i with
  | none=>rw [hp] at h;cases h
  | some q =>
   obtain ⟨off,size⟩:=q
   rw [hp] at h
   simp only at h ⊢
   cases hb:Nat.beq es.length size with
   | false=>rw [hb] at h;cases h
   | true =>
    rw [hb] at h
    simp only [cond_true] at h
    cases hs:Rr ds off es with
    | none=>rw [hs] at h;cases h
    | some ds' =>
     rw [hs] at h
     obtain ⟨e1,e2⟩:=Ob hs
     have e3:=Nat.eq_of_beq_eq_true hb
     have e4:Nat.ble (off+size) ds.length = true:=Nat.ble_eq_true_of_le (by omega)
     rw [e4,← e1]
     exact Jn h
section
variable {P : Program} {hp:List Ow} {arg:Operand→AV} {dd:Option Tmp} {ty:TypeId} {ps:String} {af:Array Edge} {gd:Option (Nat × Bool)}
theorem BO {t : TypeId} {fs:Array Field} {n b:Nat} {z:Value} {parts:List (Nat × Operand)} {pl:List (Nat × Nat)} {zs:List D} {R:AV→Prop} (ht:Tab Tryz.prog t (.struct fs) n b z) (hpl:plO fs.toList = some pl) (h1:Gd z.cells.toList = true) (hz:Zb z.cells.toList = some zs) (h:PC hp arg (fun r=>∃ ds,NA (fun i=>pl[i]?) zs r = some ds∧R (.d (BF ds))) [] parts):∃ r,Quiet Tryz.prog hp ⟨dd,.build t parts.toArray,ty,ps,af,gd⟩ arg r∧R r:=by
 obtain ⟨r,h2,ds,h3,h4⟩:=Jw h
 rw [LR hz] at h3
 exact ⟨_,XY ht (WP hpl) h1 h2 (Jn h3),h4⟩
theorem FE {t e:TypeId} {len n b n' b':Nat} {z z':Value} {d:TypeDesc} {parts:List (Nat × Operand)} {zs:List D} {R:AV→Prop} (ht:Tab P t (.array len e) n b z) (he:Tab P e d n' b' z') (h1:Gd z.cells.toList = true) (hz:Zb z.cells.toList = some zs) (h:PC hp arg (fun r=>∃ ds,NA (fun i=>some (i*n',n')) zs r = some ds∧R (.d (BF ds))) [] parts):∃ r,Quiet P hp ⟨dd,.build t parts.toArray,ty,ps,af,gd⟩ arg r∧R r:=by
 obtain ⟨r,h2,ds,h3,h4⟩:=Jw h
 rw [LR hz] at h3
 exact ⟨_,QW ht he h1 h2 (Jn h3),h4⟩
theorem CE {t e:TypeId} {len n b n' b':Nat} {z z':Value} {d:TypeDesc} {parts:List (Nat × Operand)} {R:AV→Prop} (ht:Tab P t (.slice e) n b z) (he:Tab P e d n' b' z') (hlen:Nat.blt 0 len = true) (hn:Nat.blt 0 n' = true) (hz:z'.cells.size = n') (h24:Nat.ble (len*n') 16777216 = true) (h1:Gd z'.cells.toList = true) (h:PC hp arg (fun r=>∃ ds,NA (fun i=>some (i*n',n')) (List.replicate (len*n') Ds) r = some ds∧R (.d (slD e n' (FA n' len ds)))) [] parts):∃ r,Quiet P hp ⟨dd,.buildSlice t len parts.toArray,ty,ps,af,gd⟩ arg r∧R r:=by
 obtain ⟨r,h2,ds,h3,h4⟩:=Jw h
 exact ⟨_,Iw ht he (by simpa [Nat.blt_eq] using hlen) (by simpa [Nat.blt_eq] using hn) hz (Nat.le_of_ble_eq_true h24) h1 h2 (Jn h3),h4⟩
theorem By {t e:TypeId} {n b n' b':Nat} {z z':Value} {d:TypeDesc} {x:Operand} {es:List D} (hx:arg x = .d (BF es)) (ht:Tab P t (.slice e) n b z) (he:Tab P e d n' b' z') (hl:es.length = n') (hn:Nat.blt 0 n' = true) (hz:z'.cells.size = n') (h24:Nat.ble n' 16777216 = true) (h1:Gd z'.cells.toList = true):Quiet P hp ⟨dd,.buildSlice t 1 #[(0,x)],ty,ps,af,gd⟩ arg (.d (slD e n' [es])):=by
 have hb:(Nat.beq es.length n' && Nat.ble (0*n'+n') (List.replicate (1*n') Ds).length) = true:=by
  simp [hl]
 have hf:Fx (fun i=>some (i*n',n')) (List.replicate (1*n') Ds) [(0,es)] = some es:=by
  simp only [Fx]
  rw [hb]
  simp only [cond_true,MY,Option.some.injEq]
  rw [Nat.zero_mul,List.take_zero,List.nil_append,List.drop_eq_nil_of_le (by simp [hl]),List.append_nil]
 have h:=Iw (P:=P) (hp:=hp) (dd:=dd) (ty:=ty) (ps:=ps) (af:=af) (gd:=gd) (len:=1) (parts:=[(0,x)]) (r:=[(0,es)]) ht he (by omega) (by simpa [Nat.blt_eq] using hn) hz (by have:=Nat.le_of_ble_eq_true h24;omega) h1 (VH hx PartsA.nil) hf
 have e1:FA n' 1 es = [es]:=by
  simp only [FA]
  rw [← hl,List.take_length]
 rwa [e1] at h
theorem Hq {σ : AS} {acc:List HR} {e:List (Nat × Nat)} {o:Oper} {R:HR→Prop} (hg:o.guard = none) (h:∃ r,Quiet P σ.hp o (Mk σ acc e) r∧R (.av r)):∃ r,HStep P σ acc e o r∧R r:=by
 obtain ⟨r,h1,h2⟩:=h
 exact ⟨_,TI hg h1,h2⟩
end
section
variable {P : Program} {s0:An} {m:Nat} {ops:Array Oper} {Q:Exit→AS→Prop} {rest:List Oper} {σ:AS} {hp:List Ow} {arg:Operand→AV} {dd:Option Tmp} {ty:TypeId} {ps:String} {af:Array Edge} {gd:Option (Nat × Bool)} {R:AV→Prop} {H:HR→Prop} {acc:List HR} {e:List (Nat × Nat)}
theorem KT {x : Operand} (h:∃ r,Quiet P hp ⟨dd,.move x,ty,ps,af,gd⟩ arg r∧R r):∃ r,Quiet P hp ⟨dd,.move x,ty,ps,af,gd⟩ arg r∧R r:=h
theorem ZE {x : Operand} (h:∃ r,HStep P σ acc e ⟨dd,.move x,ty,ps,af,gd⟩ r∧H r):∃ r,HStep P σ acc e ⟨dd,.move x,ty,ps,af,gd⟩ r∧H r:=h
theorem Ij {x : Operand} (h:∃ r,Quiet P hp ⟨dd,.assign x,ty,ps,af,gd⟩ arg r∧R r):∃ r,Quiet P hp ⟨dd,.assign x,ty,ps,af,gd⟩ arg r∧R r:=h
theorem ZF {t : TypeId} {x:Operand} (h:∃ r,HStep P σ acc e ⟨dd,.load t x,ty,ps,af,gd⟩ r∧H r):∃ r,HStep P σ acc e ⟨dd,.load t x,ty,ps,af,gd⟩ r∧H r:=h
theorem Pp {t f:Nat} {x:Operand} (h:∃ r,HStep P σ acc e ⟨dd,.fieldAddr t x f,ty,ps,af,gd⟩ r∧H r):∃ r,HStep P σ acc e ⟨dd,.fieldAddr t x f,ty,ps,af,gd⟩ r∧H r:=h
theorem Pn {t : TypeId} {x y:Operand} (h:∃ r,HStep P σ acc e ⟨dd,.indexAddr t x y,ty,ps,af,gd⟩ r∧H r):∃ r,HStep P σ acc e ⟨dd,.indexAddr t x y,ty,ps,af,gd⟩ r∧H r:=h
theorem Yh {l : Array Operand} {ts:Array TypeId} (h:∃ r,Quiet P hp ⟨dd,.call { callee:=.builtin .len,args:=l,argTypes:=ts },ty,ps,af,gd⟩ arg r∧R r):∃ r,Quiet P hp ⟨dd,.call { callee:=.builtin .len,args:=l,argTypes:=ts },ty,ps,af,gd⟩ arg r∧R r:=h
theorem Rc {f : Operand} {l:Array Operand} {ts:Array TypeId} (h:∃ r,Quiet P hp ⟨dd,.call { callee:=.value f,args:=l,argTypes:=ts },ty,ps,af,gd⟩ arg r∧R r):∃ r,Quiet P hp ⟨dd,.call { callee:=.value f,args:=l,argTypes:=ts },ty,ps,af,gd⟩ arg r∧R r:=h
theorem Yi {f : Operand} {l:Array Operand} {ts:Array TypeId} (h:∃ r,HStep P σ acc e ⟨dd,.call { callee:=.value f,args:=l,argTypes:=ts },ty,ps,af,gd⟩ r∧H r):∃ r,HStep P σ acc e ⟨dd,.call { callee:=.value f,args:=l,argTypes:=ts },ty,ps,af,gd⟩ r∧H r:=h
theorem A0N {t u:TypeId} {x y:Operand} (h:∃ r,Quiet P hp ⟨dd,.binOp .add t x y u,ty,ps,af,gd⟩ arg r∧R r):∃ r,Quiet P hp ⟨dd,.binOp .add t x y u,ty,ps,af,gd⟩ arg r∧R r:=h
theorem SA {op : BinOp} {t u:TypeId} {x y:Operand} (h:∃ r,Quiet P hp ⟨dd,.binOp op t x y u,ty,ps,af,gd⟩ arg r∧R r):∃ r,Quiet P hp ⟨dd,.binOp op t x y u,ty,ps,af,gd⟩ arg r∧R r:=h
theorem A0M {x : Operand} {i:Nat} (h:∃ r,Quiet P hp ⟨dd,.extract x i,ty,ps,af,gd⟩ arg r∧R r):∃ r,Quiet P hp ⟨dd,.extract x i,ty,ps,af,gd⟩ arg r∧R r:=h
theorem A0P {x : Operand} {i:Nat} (h:∃ r,HStep P σ acc e ⟨dd,.extract x i,ty,ps,af,gd⟩ r∧H r):∃ r,HStep P σ acc e ⟨dd,.extract x i,ty,ps,af,gd⟩ r∧H r:=h
theorem A1o {t : TypeId} (h:AWl P s0 m ops Q (⟨dd,.buildSlice t 0 #[],ty,ps,af,gd⟩ :: rest) σ):AWl P s0 m ops Q (⟨dd,.buildSlice t 0 #[],ty,ps,af,gd⟩ :: rest) σ:=h
theorem Pq {c : Operand} {x y:Code} (h:AWp P s0 m (.cond c x y) Q σ):AWp P s0 m (.cond c x y) Q σ:=h
end
structure CellAt (ds : List D) (off:Nat) (u:D):Prop where
 lt:off<ds.length
 eq:BP ds off = u
structure PartAt (ds : List D) (off n:Nat) (es:List D):Prop where
 le:off+n≤ds.length
 eq:(ds.drop off).take n = es
structure SetAt (ds : List D) (off:Nat) (es ds':List D):Prop where
 le:off+es.length≤ds.length
 eq:MY ds off es = ds'
theorem CellAt.mon {a : Nat→Int} {k:Nat} (h:k<8):CellAt (Cd a) k (ex (.int .i64 (a k))):=⟨h,Ox h⟩
theorem Rg {a : Nat→Int} {k:Nat} (h:k<8):CellAt (Cd a) (0+k*1) (ex (.int .i64 (a k))):=by rw [Nat.zero_add,Nat.mul_one];exact .mon h
theorem VK {c : Rat} {a:Nat→Int} {k:Nat} (h:k<8):CellAt (BH c ++ Cd a) (0+4+k*1) (ex (.int .i64 (a k))):=by
 have e:BP (BH c ++ Cd a) (4+k) = BP (Cd a) k:=by rw [show 4+k = k+4 by omega];rfl
 rw [Nat.zero_add,Nat.mul_one]
 exact ⟨by rw [List.length_append,Dy,PZ];omega,e.trans (Ox h)⟩
theorem Uv {a : Nat→Int} {k:Nat} {z:Int} (h:k<8):MY (Cd a) k [ex (.int .i64 z)] = Cd (TZ a k z):=by
 match k,h with
 | 0,_=>rfl
 | 1,_=>rfl
 | 2,_=>rfl
 | 3,_=>rfl
 | 4,_=>rfl
 | 5,_=>rfl
 | 6,_=>rfl
 | 7,_=>rfl
theorem SetAt.mon {a : Nat→Int} {k:Nat} {z:Int} (h:k<8):SetAt (Cd a) (0+k*1) [ex (.int .i64 z)] (Cd (TZ a k z)):=by
 rw [Nat.zero_add,Nat.mul_one]
 exact ⟨h,Uv h⟩
def YK : List (List D)→Nat→Option (List D)
 | [],_=>none
 | r :: _,0=>some r
 | _ :: l,i+1=>YK l i
theorem Ta : ∀ {l:List (List D)} {i:Nat} {r:List D},YK l i = some r→r = l.getD i []∧i<l.length
 | [],_,_,h=>by cases h
 | x :: l,0,r,h=>by cases h;exact ⟨rfl,by simp⟩
 | x :: l,i+1,r,h=>by
  obtain ⟨h1,h2⟩:=Ta (l:=l) (i:=i) h
  exact ⟨by simpa using h1,by simp;omega⟩
section
variable {P : Program} {hp:List Ow} {arg:Operand→AV} {dd:Option Tmp} {ty:TypeId} {ps:String} {af:Array Edge} {gd:Option (Nat × Bool)}
theorem A0J {x y:Operand} {t:TypeId} {e n b n' b' len id off k:Nat} {d:TypeDesc} {z z':Value} {κ:IntKind} (hx:arg x = .ptr id off) (hy:arg y = .d (ex (.int κ ((k:Nat):Int)))) (ht:Tab P t (.array len e) n b z) (he:Tab P e d n' b' z') (hk:k<len):Quiet P hp ⟨dd,.indexAddr t x y,ty,ps,af,gd⟩ arg (.ptr id (off+k*n')) :=
 Pa (o:=⟨dd,.indexAddr t x y,ty,ps,af,gd⟩) rfl hx hy ht he (by omega) (by omega)
theorem VC {x y:Operand} {t:TypeId} {e n b n' b' T sz:Nat} {d:TypeDesc} {z z':Value} {rows:List (List D)} {r:List D} {κ:IntKind} {i:Int} (hx:Et hp (arg x) = some (slD T sz rows)) (hy:arg y = .d (ex (.int κ i))) (ht:Tab P t (.slice e) n b z) (he:Tab P e d n' b' z') (hsz:n' = sz) (hr:YK rows i.toNat = some r) (h0:0≤i):Quiet P hp ⟨dd,.indexAddr t x y,ty,ps,af,gd⟩ arg (.d (Iu T r)):=by
 obtain ⟨h1,h2⟩:=Ta hr
 rw [h1]
 exact Quiet.index (o:=⟨dd,.indexAddr t x y,ty,ps,af,gd⟩) rfl hx hy ht he hsz h0 (by omega)
theorem Zs {T U:TypeId} {x y:Operand} {a:Nat} (hx:arg x = .d (ex (.int .i64 ((a:Nat):Int)))) (hy:arg y = .d (ex (.int .i64 1))) (h0:0<a) (h1:(a:Int)<9223372036854775807):Quiet P hp ⟨dd,.binOp .sub T x y U,ty,ps,af,gd⟩ arg (.d (ex (.int .i64 ((a - 1:Nat):Int)))):=by
 have:=Quiet.sub (P:=P) (hp:=hp) (o:=⟨dd,.binOp .sub T x y U,ty,ps,af,gd⟩) rfl hx hy (by omega) (by omega)
 rwa [show (a:Int) - 1 = ((a - 1:Nat):Int) by omega] at this
theorem Zv {x : Operand} {t:TypeId} {d:TypeDesc} {n b T id off:Nat} {z:Value} {ds:List D} {u:D} (hx:arg x = .ptr id off) (hh:hp[id]? = some (.var T (ds.map .d))) (ht:Tab P t d n b z) (hd:DP d = false) (hc:CellAt ds off u):Quiet P hp ⟨dd,.load t x,ty,ps,af,gd⟩ arg (.d u):=by
 have:=Js (P:=P) (o:=⟨dd,.load t x,ty,ps,af,gd⟩) rfl hx hh ht hd hc.lt
 rwa [hc.eq] at this
theorem UX (a b : Nat → Int) {x y : Operand} (w : World) : (do eqGuard .eql 70 x y (.agg (c8 a)) (.agg (c8 b)); binOp .eql 70 (.agg (c8 a)) (.agg (c8 b)) : Sem Value).run Tryz.prog w = .ok (.bool (MI a b)) w := by
 have heq:(Op.equalIn Op.maxDepth 70 (.agg (c8 a)) (.agg (c8 b))).run Tryz.prog w = .ok (MI a b) w:=EF a b w
 simp [eqGuard,binOp,Op.equal,heq]
theorem Sv {op : BinOp} {T U : TypeId} {x y : Operand} {dx dy : D} {a b v : Value} {o : Oper} (hop : o.op = .binOp op T x y U) (hx : arg x = .d dx) (hy : arg y = .d dy) (ha : ∀ s u, dx.rel s u → u = a) (hb : ∀ s u, dy.rel s u → u = b) (hr : ∀ w, (do eqGuard op T x y a b; binOp op T a b : Sem Value).run P w = .ok v w) : Quiet P hp o arg (.d (ex v)) := by
 refine ⟨fun base s ρ ev hok hbs hhp h=>?_⟩
 have h1:=h x (by rw [hop];simp [Op.operands])
 have h2:=h y (by rw [hop];simp [Op.operands])
 rw [hx] at h1;rw [hy] at h2
 have e1:=ha s _ h1
 have e2:=hb s _ h2
 have:=hr s.w
 refine BM (v:=v) ?_ ⟨GS.Le.refl s,rfl⟩
 simp only [execOp,hop,e1,e2,Sem.run_bind,this,Result.andThen_ok,Sem.run_pure]
theorem QU {x y:Operand} {U:TypeId} {a b:Nat→Int} (hx:arg x = .d (BF (Cd a))) (hy:arg y = .d (BF (Cd b))):Quiet Tryz.prog hp ⟨dd,.binOp .eql 70 x y U,ty,ps,af,gd⟩ arg (.d (ex (.bool (MI a b)))) :=
 Sv rfl hx hy (fun _ _ h=>DX h) (fun _ _ h=>DX h) fun w=>UX a b w
theorem VE {x y:Operand} {U:TypeId} {a b:Nat→Int} (hx:arg x = .d (BF (Cd a))) (hy:arg y = .d (BF (Cd b))) (h:MI a b = true):Quiet Tryz.prog hp ⟨dd,.binOp .eql 70 x y U,ty,ps,af,gd⟩ arg (.d (ex (.bool true))):=by
 rw [← h];exact QU hx hy
theorem VF {x y:Operand} {U:TypeId} {a b:Nat→Int} (hx:arg x = .d (BF (Cd a))) (hy:arg y = .d (BF (Cd b))) (h:MI a b = false):Quiet Tryz.prog hp ⟨dd,.binOp .eql 70 x y U,ty,ps,af,gd⟩ arg (.d (ex (.bool false))):=by
 rw [← h];exact QU hx hy
end
section
variable {P : Program} {s0:An} {n:Nat} {ops:Array Oper} {Q:Exit→AS→Prop} {rest:List Oper} {fr:List (Nat × AV)} {hp:List Ow} {ty:TypeId} {ps:String} {af:Array Edge}
theorem Rh {T T0:TypeId} {d:TypeDesc} {b id off:Nat} {z:Value} {x y:Operand} {cs cs':List D} {u:D} {hp':List Ow} (hx:AS.arg ⟨fr,hp⟩ x = .ptr id off) (hy:AS.arg ⟨fr,hp⟩ y = .d u) (hh:hp[id]? = some (.var T0 (cs.map .d))) (ht:Tab P T d 1 b z) (h1:One hp (.d u)) (hc:SetAt cs off [u] cs') (hs:Db hp id (.var T0 (cs'.map .d)) = some hp')
  (h:AWl P s0 n ops Q rest ⟨fr,hp'⟩):AWl P s0 n ops Q (⟨none,.store T x y,ty,ps,af,none⟩ :: rest) ⟨fr,hp⟩:=by
 have hlt:off<cs.length:=hc.le
 refine Kw (o:=⟨none,.store T x y,ty,ps,af,none⟩) rfl rfl rfl hx hy hh ht h1 hlt ?_
 have e1:=hc.eq
 have:MY cs off [u] = cs.set off u:=by
  unfold MY
  rw [List.set_eq_take_append_cons_drop,if_pos hlt]
  rfl
 rw [this] at e1
 rw [CA hs,← e1] at h
 exact h
end
theorem Nd : ∀ {hp hp':List Ow} {i:Nat} {x:Ow},hp[i]? = some x→Db hp i x = some hp'→hp' = hp
 | [],_,_,_,h,_=>by cases h
 | o :: l,hp',0,x,h,h'=>by cases h;cases h';rfl
 | o :: l,hp',i+1,x,h,h'=>by
  unfold Db at h'
  split at h'
  ·rename_i r hr
   cases h'
   rw [Nd (by simpa using h) hr]
  ·cases h'
theorem Yw {P : Program} {s0:An} {n:Nat} {ops:Array Oper} {Q:Exit→AS→Prop} {l:List Oper} {fr:List (Nat × AV)} {hp hp':List Ow} {T:TypeId} {cs:List D} (id:Nat) (cs':List D) (hh:hp[id]? = some (.var T (cs.map .d))) (he:cs = cs') (hs:Db hp id (.var T (cs'.map .d)) = some hp') (h:AWl P s0 n ops Q l ⟨fr,hp'⟩):AWl P s0 n ops Q l ⟨fr,hp⟩:=by
 subst he
 rw [Nd hh hs] at h
 exact h
theorem D.le.trans {x y z:D} (h:D.le x y) (h':D.le y z):D.le x z:=fun s v hv=>h' s v (h s v hv)
theorem BW {x y x' y':D} (h:D.le x x') (h':D.le y y'):D.le (Da [x,y]) (Da [x',y']):=fun s v hv=>by
 obtain ⟨vs,e,hl,hk⟩:=hv
 refine ⟨vs,e,hl,fun k hk'=>?_⟩
 obtain ⟨u,h1,h2⟩:=hk k hk'
 match k,hk' with
 | 0,_=>exact ⟨u,h1,h s u h2⟩
 | 1,_=>exact ⟨u,h1,h' s u h2⟩
 | k+2,hk'=>exact absurd hk' (by simp)
theorem Do {P Q:List Tm} (h:P = Q):D.le (Bi P) (Bi Q):=Bc (by rw [h])
theorem Fk : D.le (ex (.slice none 0 0)) (Bi []):=Eo
section
variable {P : Program} {hp:List Ow} {arg:Operand→AV} {dd:Option Tmp} {ty:TypeId} {ps:String} {af:Array Edge} {gd:Option (Nat × Bool)}
theorem Zu {x : Operand} {t:TypeId} {e n b:Nat} {z:Value} {l:List Nat} (hx:arg x = .d (wD l)) (ht:Tab P t (.slice e) n b z):Quiet P hp ⟨dd,.call { callee:=.builtin .len,args:=#[x],argTypes:=#[t] },ty,ps,af,gd⟩ arg (.d (ex (.int .i64 (l.length:Nat)))):=by
 refine ⟨fun base s ρ ev hok hbs hhp h=>?_⟩
 have h1:=h x (by simp [Op.operands,Call.operands])
 rw [hx] at h1
 obtain ⟨A,c,e1,h2⟩:=h1.1
 rw [List.length_map] at e1
 refine BM (v:=.int .i64 l.length) ?_ ⟨GS.Le.refl s,rfl⟩
 simp [execOp,resolve,invoke,builtin,e1,Builtin.len_,run_underlying ht.und,goInt]
theorem VB {x y:Operand} {t:TypeId} {e n b b' k:Nat} {d:TypeDesc} {z z':Value} {l:List Nat} {κ:IntKind} (hx:arg x = .d (wD l)) (hy:arg y = .d (ex (.int κ ((k:Nat):Int)))) (ht:Tab P t (.slice e) n b z) (he:Tab P e d 1 b' z') (hk:k<l.length):Quiet P hp ⟨dd,.indexAddr t x y,ty,ps,af,gd⟩ arg (.d (Iu 139 [ex (.int .u32 (l.getD k 0:Nat))])):=by
 refine ⟨fun base s ρ ev hok hbs hhp h=>?_⟩
 have h1:=h x (by simp [Op.operands])
 have h2:=h y (by simp [Op.operands])
 rw [hx] at h1;rw [hy] at h2
 have e2:ev y = .int κ ((k:Nat):Int):=h2
 obtain ⟨A,c,e1,h3,h4,h5⟩:=h1.1
 rw [List.length_map] at e1 h5
 obtain ⟨g,p,rfl,h6⟩:=h5 (by omega)
 have h7:=(h6 k hk).2
 have e3:(l.map fun x=>[ex (.int .u32 (x:Nat))]).getD k [] = [ex (.int .u32 (l.getD k 0:Nat))]:=by
  simp [List.getD_eq_getElem?_getD,hk]
 rw [e3] at h7
 refine BM (v:=.pointer (some ⟨g,p+k*1,none⟩)) ?_ ⟨GS.Le.refl s,g,_,rfl,h7⟩
 have hb:k<l.length:=hk
 simp [execOp,e1,e2,Instr.indexAt,asIntOf,run_underlying ht.und,hb,he.run_size,Addr.add_lit]
end
theorem Gv (z : Int):Abs Tryz.prog 120 [BF (DF z)] (ex (.bool (decide (z = 1)))):=by
 refine Be (AG Tryz.func120 (by kernel_rfl) (by kernel_rfl)) fun s vs hok hl hv=>?_
 rw [YB hl]
 obtain ⟨x0,X0,n0,c0,e0,h0⟩:=Cs (hv 0 (by simp))
 rw [e0]
 exact (Cr x0 X0 n0 c0 z _ h0).mono fun e w' ⟨he,hE⟩=>⟨_,he,hE,fun s' hw hok' _ _=>rfl⟩
theorem Eg (z : Int):Abs Tryz.prog 91 [BF (DF z)] (ex (.int .i64 z.sign)):=by
 refine Be (AG Tryz.func91 (by kernel_rfl) (by kernel_rfl)) fun s vs hok hl hv=>?_
 rw [YB hl]
 obtain ⟨x0,X0,n0,c0,e0,h0⟩:=Cs (hv 0 (by simp))
 rw [e0]
 exact (Li x0 X0 n0 c0 z _ h0).mono fun e w' ⟨he,hE⟩=>⟨_,he,hE,fun s' hw hok' _ _=>rfl⟩
theorem Za (x y:Int) (hn:(Ah x.natAbs).length≤4398046511104) (hn':(Ah y.natAbs).length≤4398046511104):Abs Tryz.prog 121 [BF (DF x),BF (DF y)] (BF (DF (Nat.gcd x.natAbs y.natAbs:Nat))):=by
 refine Be (AG Tryz.func121 (by kernel_rfl) (by kernel_rfl)) fun s vs hok hl hv=>?_
 rw [MD hl]
 obtain ⟨x0,X0,n0,c0,e0,h0⟩:=Cs (hv 0 (by simp))
 obtain ⟨x1,X1,n1,c1,e1,h1⟩:=Cs (hv 1 (by simp))
 rw [e0,e1]
 exact (Tr x0 x1 X0 X1 n0 c0 n1 c1 x y _ h0 h1 hn hn').mono fun e w' ⟨y,Y,m,k,he,hI,hE⟩=>⟨_,he,hE,fun s' hw hok' _ _=>by subst hw;exact GN hok' hI⟩
theorem YU (x y:Int) (hn:(Ah x.natAbs).length≤4398046511104) (hn':(Ah y.natAbs).length≤4398046511104):Abs Tryz.prog 134 [BF (DF x),BF (DF y)] (BF (DF (x*y))):=by
 refine Be (AG Tryz.func134 (by kernel_rfl) (by kernel_rfl)) fun s vs hok hl hv=>?_
 rw [MD hl]
 obtain ⟨x0,X0,n0,c0,e0,h0⟩:=Cs (hv 0 (by simp))
 obtain ⟨x1,X1,n1,c1,e1,h1⟩:=Cs (hv 1 (by simp))
 rw [e0,e1]
 exact (Ot x0 x1 X0 X1 n0 c0 n1 c1 x y _ h0 h1 hn hn').mono fun e w' ⟨y,Y,m,k,he,hI,hE⟩=>⟨_,he,hE,fun s' hw hok' _ _=>by subst hw;exact GN hok' hI⟩
theorem A0e (z : Int) (h0:-9223372036854775808≤z) (h1:z≤9223372036854775807):Abs Tryz.prog 133 [ex (.int .i64 z)] (BF (DF z)):=by
 refine Be (AG Tryz.func133 (by kernel_rfl) (by kernel_rfl)) fun s vs hok hl hv=>?_
 rw [YB hl]
 have e0:vs.getD 0 undef = .int .i64 z:=hv 0 (by simp)
 rw [e0]
 exact (WU z _ h0 h1).mono fun e w' ⟨y,Y,m,k,he,hI,hE⟩=>⟨_,he,hE,fun s' hw hok' _ _=>by subst hw;exact GN hok' hI⟩
theorem XI (x y:Int) (hn:(Ah x.natAbs).length≤4398046511103) (hn':(Ah y.natAbs).length≤4398046511103):Abs Tryz.prog 67 [BF (DF x),BF (DF y)] (BF (DF (Nat.gcd x.natAbs y.natAbs:Nat))):=by
 refine Be (AG Tryz.func67 (by kernel_rfl) (by kernel_rfl)) fun s vs hok hl hv=>?_
 rw [MD hl]
 obtain ⟨x0,X0,n0,c0,e0,h0⟩:=Cs (hv 0 (by simp))
 obtain ⟨x1,X1,n1,c1,e1,h1⟩:=Cs (hv 1 (by simp))
 rw [e0,e1]
 exact (Mn x0 x1 X0 X1 n0 c0 n1 c1 x y _ h0 h1 hn hn').mono fun e w' ⟨y,Y,m,k,he,hI,hE⟩=>⟨_,he,hE,fun s' hw hok' _ _=>by subst hw;exact GN hok' hI⟩
theorem Cc (z : Int) (h0:-9223372036854775808≤z) (h1:z≤9223372036854775807):Abs Tryz.prog 68 [ex (.int .i64 z)] (BF (DF z)):=by
 refine Be (AG Tryz.func68 (by kernel_rfl) (by kernel_rfl)) fun s vs hok hl hv=>?_
 rw [YB hl]
 have e0:vs.getD 0 undef = .int .i64 z:=hv 0 (by simp)
 rw [e0]
 exact (OQ z _ h0 h1).mono fun e w' ⟨y,Y,m,k,he,hI,hE⟩=>⟨_,he,hE,fun s' hw hok' _ _=>by subst hw;exact GN hok' hI⟩
theorem Kp (x y:Nat):Abs Tryz.prog 143 [wD (Ah x),wD (Ah y)] (ex (.int .i64 (Di x y))):=by
 refine Be (AG Tryz.func143 (by kernel_rfl) (by kernel_rfl)) fun s vs hok hl hv=>?_
 rw [MD hl]
 exact (Ec _ _ x y _ (Ef (hv 0 (by simp))) (Ef (hv 1 (by simp)))).mono fun e w' ⟨he,hE⟩=>⟨_,he,hE,fun s' hw hok' _ _=>rfl⟩
theorem Iv (x y:Nat):Abs Tryz.prog 102 [wD (Ah x),wD (Ah y)] (ex (.int .i64 (Di x y))):=by
 refine Be (AG Tryz.func102 (by kernel_rfl) (by kernel_rfl)) fun s vs hok hl hv=>?_
 rw [MD hl]
 exact (Dp _ _ x y _ (Ef (hv 0 (by simp))) (Ef (hv 1 (by simp)))).mono fun e w' ⟨he,hE⟩=>⟨_,he,hE,fun s' hw hok' _ _=>rfl⟩
section
variable {P : Program} {hp:List Ow} {arg:Operand→AV} {dd:Option Tmp} {ty:TypeId} {ps:String} {af:Array Edge} {gd:Option (Nat × Bool)}
theorem VG {S T:TypeId} {x:Operand} {k:IntKind} {a:Int} {d:TypeDesc} {n b n' b':Nat} {z z':Value} (hx:arg x = .d (ex (.int k a))) (hS:Tab P S d n b z) (hT:Tab P T (.int .i64) n' b' z') (h1:-9223372036854775808≤a) (h2:a≤9223372036854775807):Quiet P hp ⟨dd,.convert S T x,ty,ps,af,gd⟩ arg (.d (ex (.int .i64 a))):=by
 have:=Zz (hp:=hp) (dd:=dd) (ty:=ty) (ps:=ps) (af:=af) (gd:=gd) hx hS hT
 rwa [IntWalk.i64_in _ (by omega)] at this
end
section
variable {P : Program} {hp:List Ow} {arg:Operand→AV} {dd:Option Tmp} {ty:TypeId} {ps:String} {af:Array Edge} {gd:Option (Nat × Bool)}
end
inductive AddE (e : Nat):List Oper→List Oper→Prop
 | nil:AddE e [] []
 | keep {o:Oper} {l l':List Oper} (h:AddE e l l'):AddE e (o :: l) (o :: l')
 | add {dd:Option Tmp} {op:Op} {ty:TypeId} {ps:String} {af:Array Edge} {gd:Option (Nat × Bool)} {l l':List Oper} (h:AddE e l l'):AddE e (⟨dd,op,ty,ps,af,gd⟩ :: l) (⟨dd,op,ty,ps,af.push ⟨e,.data⟩,gd⟩ :: l')
theorem AddE.length {e : Nat} {l l':List Oper} (h:AddE e l l'):l.length = l'.length:=by
 induction h <;> simp_all
theorem AddE.at {e : Nat} {l l':List Oper} (h:AddE e l l'):∀ (i:Nat) (o:Oper),l[i]? = some o→∃ o',l'[i]? = some o'∧(o' = o∨o' = { o with after:=o.after.push ⟨e,.data⟩ }):=by
 induction h with
 | nil=>intro i o ho;simp at ho
 | keep h ih =>
  intro i o ho
  cases i with
  | zero=>simp at ho;subst ho;exact ⟨_,by simp,.inl rfl⟩
  | succ i=>simpa using ih i o (by simpa using ho)
 | add h ih =>
  intro i o ho
  cases i with
  | zero=>simp at ho;subst ho;exact ⟨_,by simp,.inr rfl⟩
  | succ i=>simpa using ih i o (by simpa using ho)
def LM (e : Nat) (L L':List Oper):Bool :=
 match L[e]?,L'[e]? with
 | some oe,some oe'=>(match oe.op with | .extract _ _=>true | .move _=>true | _=>false) && oe.guard.isNone && (BQ oe == BQ oe') &&
  ((List.range L.length).all fun i=>match L[i]?,L'[i]? with
   | some o,some o'=>(BQ o == BQ o') || (BQ oe).all fun j=>(BQ o).contains j
   | _,_=>false) &&
  ((List.range L.length).all fun j=>j == e || match L[j]? with
   | some o=>(BQ o).contains e || (BQ oe).contains j || oe.apart L.toArray o
   | none=>false) &&
  L.all fun o=>Ca o.op
 | _,_=>false
theorem Qf {P : Program} {o:Oper} {a:Act} (hop:(∃ x n,o.op = .extract x n)∨∃ x,o.op = .move x):(∃ v,∀ w,(execOp a.eval o).run P w = .ok (.value v) w)∨∀ (K:Act→World→Prop) (Q:Exit→Act→World→Prop) w,¬ o.wp P a w K Q:=by
 rcases hop with ⟨x,n,hop⟩ | ⟨x,hop⟩
 case inr=>exact .inl ⟨a.eval x,fun w=>by simp [execOp,hop]⟩
 cases hx:a.eval x with
 | tuple cs =>
  cases hc:cs[n]? with
  | some v=>exact .inl ⟨v,fun w=>by simp [execOp,hop,Instr.extract,hx,hc]⟩
  | none =>
   refine .inr fun K Q w hw=>?_
   simp [Oper.wp,execOp,hop,Instr.extract,hx,hc,stuck,Oper.upon] at hw
 | _ =>
  refine .inr fun K Q w hw=>?_
  simp [Oper.wp,execOp,hop,Instr.extract,hx,stuck,Oper.upon] at hw
theorem Ek {L : List Oper} {j:Nat} {o:Oper} {listed:Array Bool} (hsz:listed.size = L.length) (ho:L[j]? = some o):j∈Region.ready .any L.toArray listed↔listed.getD j false = false∧∀ k∈BQ o,listed.getD k false = true:=by
 have hlt:j<listed.size:=by rw [hsz];exact (List.getElem?_eq_some_iff.1 ho).1
 rw [mem_ready]
 have e:listed.getD j true = listed.getD j false:=by simp [hlt]
 rw [e]
 refine and_congr_right fun _=>⟨fun ⟨o',h1,h2⟩ k hk=>?_,fun h=>⟨o,by simpa using ho,fun e he hb=>h _ (Ib he hb)⟩⟩
 obtain rfl:o' = o:=by rw [List.getElem?_toArray,ho] at h1;exact (Option.some.inj h1).symm
 obtain ⟨e,he,hb,rfl⟩:=Gx hk
 exact h2 e he hb
theorem UY {o : Oper} {e:Nat} {k:Nat} (h:k∈BQ o):k∈BQ { o with after:=o.after.push ⟨e,.data⟩ }:=by
 obtain ⟨x,hx,hb,rfl⟩:=Gx h
 exact Ib (by simp [hx]) hb
theorem NC {o : Oper} {e:Nat} {k:Nat} (h:k∈BQ { o with after:=o.after.push ⟨e,.data⟩ }):k∈BQ o∨k = e:=by
 obtain ⟨x,hx,hb,rfl⟩:=Gx h
 rcases Array.mem_push.1 hx with hx | rfl
 ·exact .inl (Ib hx hb)
 ·exact .inr rfl
theorem Hl {P : Program} {Q:Exit→Act→World→Prop} {e:Nat} {L L':List Oper} (hL:AddE e L L') (hb:LM e L L' = true) (hQ:∀ c a w,¬ Q (.panic c) a w) (hQ':¬ LetsOut Q):∀ (f:Nat) (listed:Array Bool) (a:Act) (w:World),listed.size = L.length →
  (∀ j o,L[j]? = some o→listed.getD j false = true→∀ k∈BQ o,listed.getD k false = true) →
  wpAny P .any L'.toArray Q f listed a w→wpAny P .any L.toArray Q f listed a w:=by
 obtain ⟨oe,oe',he,he',hb1,hb2,hb3,hb4,hb5,hb6⟩:∃ oe oe',L[e]? = some oe∧L'[e]? = some oe'∧((∃ x n,oe.op = .extract x n)∨∃ x,oe.op = .move x)∧oe.guard = none∧BQ oe = BQ oe'∧(∀ i o o',L[i]? = some o→L'[i]? = some o'→BQ o = BQ o'∨∀ j∈BQ oe,j∈BQ o)∧(∀ j o,L[j]? = some o→j = e∨e∈BQ o∨j∈BQ oe∨oe.apart L.toArray o = true)∧∀ o∈L,Ca o.op = true:=by
  unfold LM at hb
  split at hb
  ·rename_i oe oe' he he'
   simp only [Bool.and_eq_true] at hb
   obtain ⟨⟨⟨⟨⟨h1,h2⟩,h3⟩,h4⟩,h5⟩,h6⟩:=hb
   refine ⟨oe,oe',he,he',?_,by simpa using h2,by simpa using h3,fun i o o' ho ho'=>?_,fun j o ho=>?_,fun o ho=>List.all_eq_true.1 h6 o ho⟩
   ·split at h1
    ·exact .inl ⟨_,_,by assumption⟩
    ·exact .inr ⟨_,by assumption⟩
    ·cases h1
   ·have:=List.all_eq_true.1 h4 i (List.mem_range.2 (List.getElem?_eq_some_iff.1 ho).1)
    rw [ho,ho'] at this
    simpa using this
   ·have:=List.all_eq_true.1 h5 j (List.mem_range.2 (List.getElem?_eq_some_iff.1 ho).1)
    rw [ho] at this
    simp only [Bool.or_eq_true,beq_iff_eq] at this
    simp only [List.contains_iff_mem] at this
    rcases this with h | (h | h) | h
    ·exact .inl h
    ·exact .inr (.inl h)
    ·exact .inr (.inr (.inl h))
    ·exact .inr (.inr (.inr h))
  ·cases hb
 have hop:=hb1
 have hlen:=hL.length
 have hel:e<L.length:=(List.getElem?_eq_some_iff.1 he).1
 have hsel:∀ (j:Nat) (o:Oper) cs b,L.toArray[j]? = some o→o.op ≠ .select cs b:=fun j o cs b ho h=>by
  have:=hb6 o (List.mem_of_getElem? (i:=j) (by simpa using ho))
  rw [h] at this
  cases this
 intro f
 induction f with
 | zero =>
  intro listed a w hsz hcl h
  refine ⟨?_,h.2⟩
  have h1:=h.1
  refine List.eq_nil_iff_forall_not_mem.2 fun i hi=>?_
  obtain ⟨_,o,ho,_⟩:=mem_ready.1 hi
  have ho:L[i]? = some o:=by simpa using ho
  obtain ⟨o',ho',hoo⟩:=hL.at i o ho
  have hi2:=(Ek hsz ho).1 hi
  by_cases hr:i∈Region.ready .any L'.toArray listed
  ·rw [h1] at hr;cases hr
  ·have hr':e∈Region.ready .any L'.toArray listed:=by
    rw [Ek (by rw [hsz,hlen]) ho'] at hr
    rw [Ek (by rw [hsz,hlen]) he',← hb3]
    rcases hb4 i o o' ho ho' with h | h
    ·exact absurd ⟨hi2.1,by rw [← h];exact hi2.2⟩ hr
    ·refine ⟨?_,fun k hk=>hi2.2 k (h k hk)⟩
     cases hg:listed.getD e false with
     | false=>rfl
     | true =>
      refine absurd ⟨hi2.1,fun k hk=>?_⟩ hr
      rcases hoo with rfl | rfl
      ·exact hi2.2 k hk
      ·rcases NC hk with hk | rfl
       ·exact hi2.2 k hk
       ·exact hg
   rw [h1] at hr';cases hr'
 | succ f ih =>
  intro listed a w hsz hcl h
  by_cases hre:e∈Region.ready .any L.toArray listed
  ·have hre2:=(Ek hsz he).1 hre
   have hre':e∈Region.ready .any L'.toArray listed:=(Ek (by rw [hsz,hlen]) he').2 ⟨hre2.1,by rw [← hb3];exact hre2.2⟩
   have h1:=h.2 e hre'
   obtain ⟨oe2,he2,hoo⟩:=hL.at e oe he
   obtain rfl:oe2 = oe':=Option.some.inj (he2.symm.trans he')
   have hex:execOp a.eval oe2 = execOp a.eval oe:=by rcases hoo with rfl | rfl <;> rfl
   have hgd:oe2.guard = none:=by rcases hoo with rfl | rfl <;> exact hb2
   have hds:oe2.dst = oe.dst:=by rcases hoo with rfl | rfl <;> rfl
   unfold wpOp at h1
   rw [show L'.toArray[e]? = some oe2 by simpa using he'] at h1
   simp only [Region.wanted,hgd,if_true] at h1
   have h1:oe2.wp P a w (wpAny P .any L'.toArray Q f (listed.setIfInBounds e true)) Q:=h1.elim id fun h=>absurd h.2 hQ'
   rcases Qf (P:=P) (a:=a) hop with ⟨v,hv⟩ | hno
   ·have h2:wpAny P .any L'.toArray Q f (listed.setIfInBounds e true) (a.put oe.dst v) w:=by
     unfold Oper.wp at h1
     rw [hex,hv w,Oper.upon_value,hds] at h1
     exact h1
    refine wpAny_first (v:=v) (show L.toArray[e]? = some oe by simpa using he) hsel (fun c a w h=>absurd h (hQ c _ w)) f listed a w (fun j oj hj hne hun hno=>?_) hre (.inl ⟨by simp [Region.wanted,hb2],hv⟩) (ih _ _ _ (by simpa using hsz) (fun j o ho hl k hk=>?_) h2)
    ·have hj : L[j]? = some oj := by simpa using hj
     rcases hb5 j oj hj with h | h | h | h
     ·exact absurd h hne
     ·obtain ⟨x,hx,hbx,hxe⟩:=Gx h
      exact absurd hxe (hno x hx hbx)
     ·have:=hre2.2 j h
      have hlt:j<listed.size:=by rw [hsz];exact (List.getElem?_eq_some_iff.1 hj).1
      simp [hlt] at this hun
      rw [this] at hun;cases hun
     ·exact h
    ·by_cases hje:j = e
     ·subst hje
      obtain rfl:o = oe:=Option.some.inj (ho.symm.trans he)
      exact getD_set_true (hre2.2 k hk)
     ·rw [getD_set_ne false (fun h=>hje h.symm)] at hl
      exact getD_set_true (hcl j o ho hl k hk)
   ·exfalso
    refine hno (wpAny P .any L'.toArray Q f (listed.setIfInBounds e true)) Q w ?_
    unfold Oper.wp at h1 ⊢
    rw [hex] at h1
    have:∀ (r:Result Next),oe2.upon P a (wpAny P .any L'.toArray Q f (listed.setIfInBounds e true)) Q r = oe.upon P a (wpAny P .any L'.toArray Q f (listed.setIfInBounds e true)) Q r:=fun r=>by
     rcases hoo with rfl | rfl <;> rfl
    rwa [this] at h1
  ·have same:∀ i,i∈Region.ready .any L.toArray listed↔i∈Region.ready .any L'.toArray listed:=fun i=>by
    by_cases hil:i<L.length
    ·have ho:L[i]? = some L[i]:=List.getElem?_eq_getElem hil
     obtain ⟨o',ho',hoo⟩:=hL.at i _ ho
     rw [Ek hsz ho,Ek (by rw [hsz,hlen]) ho']
     refine and_congr_right fun hun=>⟨fun h k hk=>?_,fun h k hk=>?_⟩
     ·rcases hb4 i _ o' ho ho' with h' | h'
      ·exact h k (by rw [h'];exact hk)
      ·rcases hoo with rfl | rfl
       ·exact h k hk
       ·rcases NC hk with hk | rfl
        ·exact h k hk
        ·cases hg:listed.getD k false with
         | true=>rfl
         | false=>exact absurd ((Ek hsz he).2 ⟨hg,fun j hj=>h j (h' j hj)⟩) hre
     ·rcases hoo with rfl | rfl
      ·exact h k hk
      ·exact h k (UY hk)
    ·constructor
     ·intro h
      obtain ⟨_,o,ho,_⟩:=mem_ready.1 h
      have:=(Array.getElem?_eq_some_iff.1 ho).1
      simp at this
      exact absurd this hil
     ·intro h
      obtain ⟨_,o,ho,_⟩:=mem_ready.1 h
      have:=(Array.getElem?_eq_some_iff.1 ho).1
      simp at this
      exact absurd (by omega) hil
   refine ⟨fun hn=>h.1 (List.eq_nil_iff_forall_not_mem.2 fun i hi=>?_),fun i hi=>?_⟩
   ·have:=(same i).2 hi
    rw [hn] at this;cases this
   ·have h1:=h.2 i ((same i).1 hi)
    obtain ⟨_,o,ho,_⟩:=mem_ready.1 hi
    have ho:L[i]? = some o:=by simpa using ho
    obtain ⟨o',ho',hoo⟩:=hL.at i o ho
    have hi2:=(Ek hsz ho).1 hi
    have hyl:∀ t,yielded L'.toArray t = yielded L.toArray t:=fun t=>by
     funext j
     unfold yielded
     simp only [List.getElem?_toArray]
     cases hj:L[j]? with
     | none =>
      have:L'[j]? = none:=by rw [List.getElem?_eq_none_iff] at hj ⊢;omega
      rw [this]
     | some oj =>
      obtain ⟨oj',hj',hjj⟩:=hL.at j oj hj
      rw [hj']
      rcases hjj with rfl | rfl <;> rfl
    have hcl2:∀ j o,L[j]? = some o→(listed.setIfInBounds i true).getD j false = true→∀ k∈BQ o,(listed.setIfInBounds i true).getD k false = true:=fun j oj hoj hl k hk=>by
     by_cases hji:j = i
     ·subst hji
      obtain rfl:oj = o:=Option.some.inj (hoj.symm.trans ho)
      exact getD_set_true (hi2.2 k hk)
     ·rw [getD_set_ne false (fun h=>hji h.symm)] at hl
      exact getD_set_true (hcl j oj hoj hl k hk)
    refine wpOp_mono (fun a w h=>ih _ a w (by simpa using hsz) hcl2 h) ?_
    unfold wpOp at h1 ⊢
    rw [show L'.toArray[i]? = some o' by simpa using ho'] at h1
    rw [show L.toArray[i]? = some o by simpa using ho]
    rw [hyl] at h1
    rcases hoo with rfl | rfl
    ·exact h1
    ·exact h1
structure OnlyN (Q : Exit→AS→Prop) (e:Exit) (σ:AS):Prop where
 how:e = .normal
 run:Q .normal σ
theorem OnlyN.mk' {Q : Exit→AS→Prop} {σ:AS} (h:Q .normal σ):OnlyN Q .normal σ:=⟨rfl,h⟩
theorem En {P : Program} {s0:An} {n:Nat} {id:Nat} {e:Nat} {L L':List Oper} {Q:Exit→AS→Prop} (hm:P.follows .mixedOrders = true) (hL:AddE e L L') (hb:LM e L L' = true):DrawOk P s0 n id L.toArray L' Q (OnlyN Q):=⟨fun a w h=>by
 have hfz:∀ j,(Array.replicate L.toArray.size false).getD j false = false:=fun j=>by
  rcases Nat.lt_or_ge j L.length with h | h
  ·simp [h]
  ·simp [h]
 have hs:L'.toArray.size = L.toArray.size:=by simp [hL.length]
 rw [hs] at h
 have hp:∀ c a w,¬ HC s0 n (OnlyN Q) (.panic c) a w:=fun c a w ⟨σ,h,_⟩=>by have:=h.how;cases this
 have hl:¬ LetsOut (HC s0 n (OnlyN Q)):=fun ⟨a,w,σ,h,_⟩=>by have:=h.how;cases this
 have h1:=Hl hL hb hp hl _ _ _ _ (by simp) (fun j o _ hl=>by rw [hfz] at hl;cases hl) h
 exact wp_mono (wp_region_any hm h1) fun ex a' w' ⟨σ,h,hs⟩=>by
  obtain ⟨rfl,h⟩:=h
  exact ⟨σ,h,hs⟩⟩
section
variable {P : Program} {hp:List Ow} {arg:Operand→AV} {dd:Option Tmp} {ty:TypeId} {ps:String} {af:Array Edge} {gd:Option (Nat × Bool)}
theorem Af {x : Operand} {r:AV} (hx:arg x = r:=by first | exact ao rfl | exact ah rfl):Quiet P hp ⟨dd,.move x,ty,ps,af,gd⟩ arg r:=GW hx
theorem NO {x : Operand} {r:AV} (hx:arg x = r:=by first | exact ao rfl | exact ah rfl):Quiet P hp ⟨dd,.assign x,ty,ps,af,gd⟩ arg r:=Fj hx
theorem Ar {x : Operand} {t:TypeId} {d:TypeDesc} {n b T id off:Nat} {z:Value} {ds r:List D} (hx:arg x = .ptr id off:=by first | exact ao rfl | exact ah rfl) (hh:hp[id]? = some (.var T (ds.map .d)):=by exact rfl) (ht:Tab P t d n b z:=by exact (Ad rfl)) (hd:DP d = true:=by exact rfl) (hr:Wo off n ds = some r:=by exact rfl):Quiet P hp ⟨dd,.load t x,ty,ps,af,gd⟩ arg (.d (BF r)):=A0I hx hh ht hd hr
theorem AB {x : Operand} {t:TypeId} {d:TypeDesc} {n b T id off:Nat} {z:Value} {ds:List D} {r:D} (hx:arg x = .ptr id off:=by first | exact ao rfl | exact ah rfl) (hh:hp[id]? = some (.var T (ds.map .d)):=by exact rfl) (ht:Tab P t d n b z:=by exact (Ad rfl)) (hd:DP d = false:=by exact rfl) (hr:XD off ds = some r:=by exact rfl):Quiet P hp ⟨dd,.load t x,ty,ps,af,gd⟩ arg (.d r):=Zx hx hh ht hd hr
theorem AA {x : Operand} {t:TypeId} {d:TypeDesc} {n b T:Nat} {z:Value} {ds:List D} (hx:arg x = .d (Iu T ds):=by first | exact ao rfl | exact ah rfl) (ht:Tab P t d n b z:=by exact (Ad rfl)) (hd:DP d = true:=by exact rfl) (hn:ds.length = n:=by exact rfl):Quiet P hp ⟨dd,.load t x,ty,ps,af,gd⟩ arg (.d (BF ds)):=NQ hx ht hd hn
theorem CY {x : Operand} {t:TypeId} {d:TypeDesc} {n b T:Nat} {z:Value} {ds r:List D} (hx:arg x = .d (Iu T ds):=by first | exact ao rfl | exact ah rfl) (ht:Tab P t d n b z:=by exact (Ad rfl)) (hd:DP d = true:=by exact rfl) (hr:Ld n ds = some r:=by exact rfl):Quiet P hp ⟨dd,.load t x,ty,ps,af,gd⟩ arg (.d (BF r)):=XX hx ht hd hr
theorem BS {x : Operand} {t:TypeId} {d:TypeDesc} {n b T:Nat} {z:Value} {ds:List D} {r:D} (hx:arg x = .d (Iu T ds):=by first | exact ao rfl | exact ah rfl) (ht:Tab P t d n b z:=by exact (Ad rfl)) (hd:DP d = false:=by exact rfl) (hr:XD 0 ds = some r:=by exact rfl):Quiet P hp ⟨dd,.load t x,ty,ps,af,gd⟩ arg (.d r):=Zw hx ht hd hr
theorem ED {x : Operand} {t:TypeId} {d:TypeDesc} {n b T id off:Nat} {z:Value} {ds:List D} {u:D} (hx:arg x = .ptr id off:=by first | exact ao rfl | exact ah rfl) (hh:hp[id]? = some (.var T (ds.map .d)):=by exact rfl) (ht:Tab P t d n b z:=by exact (Ad rfl)) (hd:DP d = false:=by exact rfl) (hc:CellAt ds off u:=by first | exact (Rg (by first | omega | (simp;omega))) | exact (VK (by first | omega | (simp;omega)))):Quiet P hp ⟨dd,.load t x,ty,ps,af,gd⟩ arg (.d u):=Zv hx hh ht hd hc
theorem Bb {x : Operand} {S:TypeId} {fs:Array Field} {f n b n' b' T:Nat} {fd:Field} {d:TypeDesc} {z z':Value} {ds r:List D} (hx:arg x = .d (Iu T ds):=by first | exact ao rfl | exact ah rfl) (hS:Tab P S (.struct fs) n b z:=by exact (Ad rfl)) (hf:fs[f]? = some fd:=by exact rfl) (he:Tab P fd.type d n' b' z':=by exact (Ad rfl)) (hn:Nat.beq n' 0 = false:=by exact rfl) (hr:LU fd.offset ds = some r:=by exact rfl):Quiet P hp ⟨dd,.fieldAddr S x f,ty,ps,af,gd⟩ arg (.d (Iu T r)):=TE hx hS hf he hn hr
theorem Ao {x : Operand} {S:TypeId} {fs:Array Field} {f n b n' b' id off:Nat} {fd:Field} {d:TypeDesc} {z z':Value} (hx:arg x = .ptr id off:=by first | exact ao rfl | exact ah rfl) (hS:Tab P S (.struct fs) n b z:=by exact (Ad rfl)) (hf:fs[f]? = some fd:=by exact rfl) (he:Tab P fd.type d n' b' z':=by exact (Ad rfl)) (hn:Nat.beq n' 0 = false:=by exact rfl):Quiet P hp ⟨dd,.fieldAddr S x f,ty,ps,af,gd⟩ arg (.ptr id (off+fd.offset)):=Zy hx hS hf he hn
theorem Ed {α : Type} {x y:Operand} {t:TypeId} {e n b n' b' T sz:Nat} {d:TypeDesc} {z z':Value} {f:α→List D} {a:α} {l:List α} {κ:IntKind} (hx:Et hp (arg x) = some (slD T sz ((a :: l).map f)):=by exact rfl) (hy:arg y = .d (ex (.int κ 0)):=by first | exact ao rfl | exact ah rfl) (ht:Tab P t (.slice e) n b z:=by exact (Ad rfl)) (he:Tab P e d n' b' z':=by exact (Ad rfl)) (hsz:n' = sz:=by exact rfl):Quiet P hp ⟨dd,.indexAddr t x y,ty,ps,af,gd⟩ arg (.d (Iu T (f a))):=VD hx hy ht he hsz
theorem Az {α : Type} [Inhabited α] {x y:Operand} {t:TypeId} {e n b n' b' T sz k:Nat} {d:TypeDesc} {z z':Value} {f:α→List D} {l:List α} {κ:IntKind} (hx:Et hp (arg x) = some (slD T sz (l.map f)):=by exact rfl) (hy:arg y = .d (ex (.int κ (k:Nat))):=by first | exact ao rfl | exact ah rfl) (ht:Tab P t (.slice e) n b z:=by exact (Ad rfl)) (he:Tab P e d n' b' z':=by exact (Ad rfl)) (hsz:n' = sz:=by exact rfl) (hk:k<l.length:=by first | omega | (simp;omega)):Quiet P hp ⟨dd,.indexAddr t x y,ty,ps,af,gd⟩ arg (.d (Iu T (f (l.getD k default)))):=DK hx hy ht he hsz hk
theorem GB {x y:Operand} {t:TypeId} {e n b n' b' T sz:Nat} {d:TypeDesc} {z z':Value} {rows:List (List D)} {r:List D} {κ:IntKind} {i:Int} (hx:Et hp (arg x) = some (slD T sz rows):=by exact rfl) (hy:arg y = .d (ex (.int κ i)):=by first | exact ao rfl | exact ah rfl) (ht:Tab P t (.slice e) n b z:=by exact (Ad rfl)) (he:Tab P e d n' b' z':=by exact (Ad rfl)) (hsz:n' = sz:=by exact rfl) (hr:YK rows i.toNat = some r:=by exact rfl) (h0:0≤i:=by omega):Quiet P hp ⟨dd,.indexAddr t x y,ty,ps,af,gd⟩ arg (.d (Iu T r)):=VC hx hy ht he hsz hr h0
theorem ER {x y:Operand} {t:TypeId} {e n b n' b' len id off k:Nat} {d:TypeDesc} {z z':Value} {κ:IntKind} (hx:arg x = .ptr id off:=by first | exact ao rfl | exact ah rfl) (hy:arg y = .d (ex (.int κ ((k:Nat):Int))):=by first | exact ao rfl | exact ah rfl) (ht:Tab P t (.array len e) n b z:=by exact (Ad rfl)) (he:Tab P e d n' b' z':=by exact (Ad rfl)) (hk:k<len:=by first | omega | (simp;omega)):Quiet P hp ⟨dd,.indexAddr t x y,ty,ps,af,gd⟩ arg (.ptr id (off+k*n')):=A0J hx hy ht he hk
theorem NM {x y:Operand} {t:TypeId} {e n b b' k:Nat} {d:TypeDesc} {z z':Value} {l:List Nat} {κ:IntKind} (hx:arg x = .d (wD l):=by first | exact ao rfl | exact ah rfl) (hy:arg y = .d (ex (.int κ ((k:Nat):Int))):=by first | exact ao rfl | exact ah rfl) (ht:Tab P t (.slice e) n b z:=by exact (Ad rfl)) (he:Tab P e d 1 b' z':=by exact (Ad rfl)) (hk:k<l.length:=by first | omega | (simp;omega)):Quiet P hp ⟨dd,.indexAddr t x y,ty,ps,af,gd⟩ arg (.d (Iu 139 [ex (.int .u32 (l.getD k 0:Nat))])):=VB hx hy ht he hk
theorem GA {α : Type} {x y:Operand} {t:TypeId} {e n b n' b' T sz:Nat} {d:TypeDesc} {z z':Value} {f:α→List D} {a:α} {l:List α} (hx:Et hp (arg x) = some (slD T sz ((a :: l).map f)):=by exact rfl) (hy:arg y = .d (ex (.int .i64 1)):=by first | exact ao rfl | exact ah rfl) (ht:Tab P t (.slice e) n b z:=by exact (Ad rfl)) (he:Tab P e d n' b' z':=by exact (Ad rfl)) (hsz:n' = sz:=by exact rfl):Quiet P hp ⟨dd,.slice t x (some y) none none,ty,ps,af,gd⟩ arg (.d (slD T sz (l.map f))):=XU hx hy ht he hsz
theorem AH {α : Type} {x:Operand} {t:TypeId} {e n b T sz:Nat} {z:Value} {f:α→List D} {l:List α} (hx:Et hp (arg x) = some (slD T sz (l.map f)):=by exact rfl) (ht:Tab P t (.slice e) n b z:=by exact (Ad rfl)):Quiet P hp ⟨dd,.call { callee:=.builtin .len,args:=#[x],argTypes:=#[t] },ty,ps,af,gd⟩ arg (.d (ex (.int .i64 (l.length:Nat)))):=Ju hx ht
theorem TC {x : Operand} {t:TypeId} {e n b:Nat} {z:Value} {l:List Nat} (hx:arg x = .d (wD l):=by first | exact ao rfl | exact ah rfl) (ht:Tab P t (.slice e) n b z:=by exact (Ad rfl)):Quiet P hp ⟨dd,.call { callee:=.builtin .len,args:=#[x],argTypes:=#[t] },ty,ps,af,gd⟩ arg (.d (ex (.int .i64 (l.length:Nat)))):=Zu hx ht
theorem A0A {x : Operand} {t:TypeId} {e n b T sz:Nat} {z:Value} {rows:List (List D)} (hx:Et hp (arg x) = some (slD T sz rows):=by exact rfl) (ht:Tab P t (.slice e) n b z:=by exact (Ad rfl)):Quiet P hp ⟨dd,.call { callee:=.builtin .len,args:=#[x],argTypes:=#[t] },ty,ps,af,gd⟩ arg (.d (ex (.int .i64 rows.length))):=A0G hx ht
theorem AR {T U:TypeId} {x y:Operand} {a:Nat} (hx:arg x = .d (ex (.int .i64 (a:Nat))):=by first | exact ao rfl | exact ah rfl) (hy:arg y = .d (ex (.int .i64 1)):=by first | exact ao rfl | exact ah rfl) (h1:(a:Int)<9223372036854775807:=by omega):Quiet P hp ⟨dd,.binOp .add T x y U,ty,ps,af,gd⟩ arg (.d (ex (.int .i64 ((a+1:Nat):Int)))):=TD hx hy h1
theorem El {T U:TypeId} {x y:Operand} {a b:Int} (hx:arg x = .d (ex (.int .i64 a)):=by first | exact ao rfl | exact ah rfl) (hy:arg y = .d (ex (.int .i64 b)):=by first | exact ao rfl | exact ah rfl) (h1:-9223372036854775808≤a+b:=by omega) (h2:a+b≤9223372036854775807:=by omega):Quiet P hp ⟨dd,.binOp .add T x y U,ty,ps,af,gd⟩ arg (.d (ex (.int .i64 (a+b)))):=A0L hx hy h1 h2
theorem KQ {T U:TypeId} {x y:Operand} {a:Nat} (hx:arg x = .d (ex (.int .i64 ((a:Nat):Int))):=by first | exact ao rfl | exact ah rfl) (hy:arg y = .d (ex (.int .i64 1)):=by first | exact ao rfl | exact ah rfl) (h0:0<a:=by omega) (h1:(a:Int)<9223372036854775807:=by omega):Quiet P hp ⟨dd,.binOp .sub T x y U,ty,ps,af,gd⟩ arg (.d (ex (.int .i64 ((a - 1:Nat):Int)))):=Zs hx hy h0 h1
theorem A0y {T U:TypeId} {x y:Operand} {a b:Int} (hx:arg x = .d (ex (.int .i64 a)):=by first | exact ao rfl | exact ah rfl) (hy:arg y = .d (ex (.int .i64 b)):=by first | exact ao rfl | exact ah rfl) (h1:-9223372036854775808≤a*b:=by omega) (h2:a*b≤9223372036854775807:=by omega):Quiet P hp ⟨dd,.binOp .mul T x y U,ty,ps,af,gd⟩ arg (.d (ex (.int .i64 (a*b)))):=A0E hx hy h1 h2
theorem DC {T U:TypeId} {x y:Operand} {k:IntKind} {a b:Int} (hx:arg x = .d (ex (.int k a)):=by first | exact ao rfl | exact ah rfl) (hy:arg y = .d (ex (.int k b)):=by first | exact ao rfl | exact ah rfl) (h0:0≤a:=by omega) (hb:0<b:=by omega):Quiet P hp ⟨dd,.binOp .rem T x y U,ty,ps,af,gd⟩ arg (.d (ex (.int k (a % b)))):=A0C hx hy h0 hb
theorem Am {op : BinOp} {T U:TypeId} {x y:Operand} {k:IntKind} {a b:Int} (hb:Nt op = true:=by exact rfl) (hx:arg x = .d (ex (.int k a)):=by first | exact ao rfl | exact ah rfl) (hy:arg y = .d (ex (.int k b)):=by first | exact ao rfl | exact ah rfl) (hc:EQ op a b:=by first | (simp only [EQ,List.length_cons,List.length_nil];omega) | (simp [EQ];done) | (simp [EQ];omega)):Quiet P hp ⟨dd,.binOp op T x y U,ty,ps,af,gd⟩ arg (.d (ex (.bool true))):=TF hb hx hy hc
theorem Ak {op : BinOp} {T U:TypeId} {x y:Operand} {k:IntKind} {a b:Int} (hb:Nt op = true:=by exact rfl) (hx:arg x = .d (ex (.int k a)):=by first | exact ao rfl | exact ah rfl) (hy:arg y = .d (ex (.int k b)):=by first | exact ao rfl | exact ah rfl) (hc:¬ EQ op a b:=by first | (simp only [EQ,List.length_cons,List.length_nil];omega) | (simp [EQ];done) | (simp [EQ];omega)):Quiet P hp ⟨dd,.binOp op T x y U,ty,ps,af,gd⟩ arg (.d (ex (.bool false))):=Pi hb hx hy hc
theorem Mv {op : BinOp} {T U:TypeId} {x y:Operand} {k:IntKind} {a b:Int} {c:Bool} (hx:arg x = .d (ex (.int k a)):=by first | exact ao rfl | exact ah rfl) (hy:arg y = .d (ex (.int k b)):=by first | exact ao rfl | exact ah rfl) (hc:Qo op a b = some c:=by exact rfl):Quiet P hp ⟨dd,.binOp op T x y U,ty,ps,af,gd⟩ arg (.d (ex (.bool c))):=A0K hx hy hc
theorem NN {x y:Operand} {U:TypeId} {a b:Nat→Int} (hx:arg x = .d (BF (Cd a)):=by first | exact ao rfl | exact ah rfl) (hy:arg y = .d (BF (Cd b)):=by first | exact ao rfl | exact ah rfl) (h:MI a b = true:=by assumption):Quiet Tryz.prog hp ⟨dd,.binOp .eql 70 x y U,ty,ps,af,gd⟩ arg (.d (ex (.bool true))):=VE hx hy h
theorem Vy {x y:Operand} {U:TypeId} {a b:Nat→Int} (hx:arg x = .d (BF (Cd a)):=by first | exact ao rfl | exact ah rfl) (hy:arg y = .d (BF (Cd b)):=by first | exact ao rfl | exact ah rfl) (h:MI a b = false:=by assumption):Quiet Tryz.prog hp ⟨dd,.binOp .eql 70 x y U,ty,ps,af,gd⟩ arg (.d (ex (.bool false))):=VF hx hy h
theorem Br {T : TypeId} {x:Operand} {a:Bool} (hx:arg x = .d (ex (.bool a)):=by first | exact ao rfl | exact ah rfl):Quiet P hp ⟨dd,.unOp .not T x,ty,ps,af,gd⟩ arg (.d (ex (.bool (!a)))):=A0D hx
theorem A0z {x y:Operand} {tys:Array TypeId} {k:IntKind} {a b:Int} (hx:arg x = .d (ex (.int k a)):=by first | exact ao rfl | exact ah rfl) (hy:arg y = .d (ex (.int k b)):=by first | exact ao rfl | exact ah rfl):Quiet P hp ⟨dd,.call { callee:=.builtin .max,args:=#[x,y],argTypes:=tys },ty,ps,af,gd⟩ arg (.d (ex (.int k (Max.max a b)))):=A0F hx hy
theorem Bl {x : Operand} {i:Nat} {ds:List D} {r:D} (hx:arg x = .d (Da ds):=by first | exact ao rfl | exact ah rfl) (hr:XD i ds = some r:=by exact rfl):Quiet P hp ⟨dd,.extract x i,ty,ps,af,gd⟩ arg (.d r):=Sw hx hr
theorem AP {c x y:Operand} {r:AV} (hx:arg x = r:=by first | exact ao rfl | exact ah rfl) (hc:arg c = .d (ex (.bool true)):=by first | exact ao rfl | exact ah rfl):Quiet P hp ⟨dd,.pick c x y,ty,ps,af,gd⟩ arg r:=XV hx hc
theorem AD {c x y:Operand} {r:AV} (hy:arg y = r:=by first | exact ao rfl | exact ah rfl) (hc:arg c = .d (ex (.bool false)):=by first | exact ao rfl | exact ah rfl):Quiet P hp ⟨dd,.pick c x y,ty,ps,af,gd⟩ arg r:=XW hy hc
theorem BG {S T:TypeId} {x:Operand} {k:IntKind} {a:Int} {d:TypeDesc} {n b n' b':Nat} {z z':Value} (hx:arg x = .d (ex (.int k a)):=by first | exact ao rfl | exact ah rfl) (hS:Tab P S d n b z:=by exact (Ad rfl)) (hT:Tab P T (.int .i64) n' b' z':=by exact (Ad rfl)) (h1:-9223372036854775808≤a:=by omega) (h2:a≤9223372036854775807:=by omega):Quiet P hp ⟨dd,.convert S T x,ty,ps,af,gd⟩ arg (.d (ex (.int .i64 a))):=VG hx hS hT h1 h2
theorem Ag {f : Operand} {args:List Operand} {tys:Array TypeId} {fid:FuncId} {ds:List D} {r:D} (hc:Abs P fid ds r) (hf:arg f = .d (ex (.func (.func fid) #[] #[])):=by first | exact ao rfl | exact ah rfl) (ha:ArgsLe hp arg args ds:=by repeat (first | exact ArgsLe.nil | refine ArgsLe.cons rfl (D.le.refl _) ?_ | refine ArgsLe.cons rfl Eo ?_)):Quiet P hp ⟨dd,.call { callee:=.value f,args:=args.toArray,argTypes:=tys },ty,ps,af,gd⟩ arg (.d r):=KR hf hc ha
end
section
variable {P : Program} {s0:An} {n:Nat} {ops:Array Oper} {Q:Exit→AS→Prop} {rest:List Oper} {fr:List (Nat × AV)} {hp:List Ow} {ty:TypeId} {ps:String} {af:Array Edge} {d:Nat} {op:Op} {r:AV}
theorem Wq (hq : Quiet P hp ⟨some d,op,ty,ps,af,none⟩ (AS.arg ⟨fr,hp⟩) r) (h:AWl P s0 n ops Q rest ⟨(d,r) :: fr,hp⟩) (hs:Ca op = true:=by exact rfl) (hd:Nat.blt d n = true:=by exact rfl):AWl P s0 n ops Q (⟨some d,op,ty,ps,af,none⟩ :: rest) ⟨fr,hp⟩:=Cz hs hd ⟨r,hq,h⟩
theorem Wg {j : Nat} {b:Bool} {e:Nat} (hq:Quiet P hp ⟨some d,op,ty,ps,af,some (j,b)⟩ (AS.arg ⟨fr,hp⟩) r) (h:AWl P s0 n ops Q rest ⟨(d,r) :: fr,hp⟩) (hy:(ops[j]?).bind (·.dst) = some e:=by exact rfl) (hl:CG fr e = some (.d (ex (.bool b))):=by exact rfl) (hen:Nat.blt e n = true:=by exact rfl) (hs:Ca op = true:=by exact rfl) (hd:Nat.blt d n = true:=by exact rfl):AWl P s0 n ops Q (⟨some d,op,ty,ps,af,some (j,b)⟩ :: rest) ⟨fr,hp⟩:=HV hy hl hen hs hd ⟨r,hq,h⟩
theorem Ws {j : Nat} {b:Bool} {u:Value} {e:Nat} (h:AWl P s0 n ops Q rest ⟨(d,.d (ex undef)) :: fr,hp⟩) (hy:(ops[j]?).bind (·.dst) = some e:=by exact rfl) (hl:CG fr e = some (.d (ex u)):=by exact rfl) (hne:ZY u b = false:=by exact rfl) (hen:Nat.blt e n = true:=by exact rfl) (hd:Nat.blt d n = true:=by exact rfl):AWl P s0 n ops Q (⟨some d,op,ty,ps,af,some (j,b)⟩ :: rest) ⟨fr,hp⟩:=A0T hy hl hne hen hd h
end
section
variable {P : Program} {σ:AS} {K:List HR→Prop} {acc acc':List HR} {o:Oper} {L:List Oper} {e:List (Nat × Nat)} {es:List (List (Nat × Nat))} {r:AV}
theorem Xq (hq : Quiet P σ.hp o (Mk σ acc e) r) (h:HS P σ K acc' L es) (hg:o.guard = none:=by exact rfl) (ha:Kc acc (.av r) = some acc':=by exact rfl):HS P σ K acc (o :: L) (e :: es):=⟨_,TI hg hq,_,ha,h⟩
theorem Xg {j : Nat} {b:Bool} (hq:Quiet P σ.hp o (Mk σ acc e) r) (h:HS P σ K acc' L es) (hg:o.guard = some (j,b):=by exact rfl) (hj:acc[j]? = some (.av (.d (ex (.bool b)))):=by exact rfl) (ha:Kc acc (.av r) = some acc':=by exact rfl):HS P σ K acc (o :: L) (e :: es):=⟨_,Ye hg hj hq,_,ha,h⟩
theorem Xs {j : Nat} {b:Bool} {u:Value} (h:HS P σ K acc' L es) (hg:o.guard = some (j,b):=by exact rfl) (hj:acc[j]? = some (.av (.d (ex u))):=by exact rfl) (hne:ZY u b = false:=by exact rfl) (ha:Kc acc (.av (.d (ex undef))) = some acc':=by exact rfl):HS P σ K acc (o :: L) (e :: es):=⟨_,Yg hg hj hne,_,ha,h⟩
theorem Xn {T n b:Nat} {d:TypeDesc} {z:Value} (h:HS P σ K acc' L es) (hg:o.guard = none:=by exact rfl) (hop:o.op = .alloc T:=by exact rfl) (ht:Tab P T d n b z:=by exact Ad rfl) (hT:T ≠ 139:=by decide) (h1:Gd z.cells.toList = true:=by exact rfl) (ha:Kc acc (.new T z.cells.toList) = some acc':=by exact rfl):HS P σ K acc (o :: L) (e :: es):=⟨_,HStep.n hg ht hop hT h1,_,ha,h⟩
end
end Go.Proofs.YtnhgojfjmhjokaaGreat
set_option linter.unusedSimpArgs false
set_option linter.unusedVariables false
namespace Go.Proofs.YtnhgojfjmhjokaaGreat
open Go.RowKit
section
variable {P : Program} {s0:An} {n:Nat} {ops:Array Oper} {Q:Exit→AS→Prop} {σ:AS}
theorem Yn {K : AS→Prop} (h:K σ):AThen K Q .normal σ:=Hd h
theorem Y0 {K : AS→Prop} (h:K σ):AWl P s0 n ops (AThen K Q) [] σ:=AWl.nil (Hd h)
theorem Y1 {y : Code} {i:Nat} {l:List Oper} (h:AWl P s0 n l.toArray (AThen (AWp P s0 n y Q) Q) l σ):AWp P s0 n (.seq (.region i l.toArray false) y) Q σ:=Ac (AWp.region h)
theorem Ys {K : AS→Prop} (h:K σ):AWp P s0 n .skip (AThen K Q) σ:=BA (Hd h)
end
theorem Yf {P : Program} {fn:Func} {r:D} {σ:AS} {t:Nat} {av:AV} (hr:fn.results = #[.tmp t]:=by exact rfl) (h:CG σ.fr t = some av:=by exact rfl) (hx:Et σ.hp av = some r:=by exact rfl):Fin P fn r .ret σ:=Bd (by rw [hr];exact Rets.of1 (ResV.tmp h hx) (D.le.refl _))
theorem Ab {P : Program} {f : FuncId} {fn : Func} {c : Code} {ds : List D} {r : D} (hf : P.funcs[f]? = some fn) (h : ∀ s0, AWp P s0 fn.ntmps c (Fin P fn r) ⟨params 0 ds, []⟩) (hb : fn.body = some c := by exact rfl) (h1 : (fn.name == "runtime.NumGoroutine") = false := by kernel_rfl) (h2 : fn.body.isNone = false := by kernel_rfl) (hn : Nat.ble ds.length fn.ntmps = true := by exact rfl) : Abs P f ds r := Abs.intro hf hb (AG hf h1 h2) hn h
section
variable {P : Program} {s0:An} {n:Nat} {ops:Array Oper} {Q:Exit→AS→Prop} {fr:List (Nat × AV)} {hp hp':List Ow} {rest:List Oper} {ty:TypeId} {ps:String} {af:Array Edge} {d:Nat} {x:Operand} {r:AV}
theorem Wm (h : AWl P s0 n ops Q rest ⟨(d,r) :: fr,hp⟩) (hx:AS.arg ⟨fr,hp⟩ x = r:=by exact ao rfl) (hd:Nat.blt d n = true:=by exact rfl):AWl P s0 n ops Q (⟨some d,.move x,ty,ps,af,none⟩ :: rest) ⟨fr,hp⟩:=Wq (GW hx) h rfl hd
theorem Wa (h : AWl P s0 n ops Q rest ⟨(d,r) :: fr,hp⟩) (hx:AS.arg ⟨fr,hp⟩ x = r:=by exact ao rfl) (hd:Nat.blt d n = true:=by exact rfl):AWl P s0 n ops Q (⟨some d,.assign x,ty,ps,af,none⟩ :: rest) ⟨fr,hp⟩:=Wq (Fj hx) h rfl hd
theorem Ct {y z:Code} (h:AWp P s0 n y Q ⟨fr,hp⟩) (hx:AS.arg ⟨fr,hp⟩ x = .d (ex (.bool true)):=by exact ao rfl):AWp P s0 n (.cond x y z) Q ⟨fr,hp⟩:=NW hx h
theorem Cf {y z:Code} (h:AWp P s0 n z Q ⟨fr,hp⟩) (hx:AS.arg ⟨fr,hp⟩ x = .d (ex (.bool false)):=by exact ao rfl):AWp P s0 n (.cond x y z) Q ⟨fr,hp⟩:=NX hx h
theorem Sf {T T0:TypeId} {t:TypeDesc} {b id m:Nat} {z:Value} {y:Operand} {cells:List AV} {ds:List D} (h:AWl Tryz.prog s0 n ops Q rest ⟨fr,hp'⟩) (hx:AS.arg ⟨fr,hp⟩ x = .ptr id 0:=by exact ao rfl) (hy:AS.arg ⟨fr,hp⟩ y = .d (BF ds):=by exact ao rfl) (hh:hp[id]? = some (.var T0 cells):=by exact rfl) (ht:Tab Tryz.prog T t m b z:=by exact Ad rfl) (hm:ds.length = m:=by exact rfl) (hoff:cells.length = m:=by exact rfl) (hs:Db hp id (.var T0 (ds.map .d)) = some hp':=by exact rfl):AWl Tryz.prog s0 n ops Q (⟨none,.store T x y,ty,ps,af,none⟩ :: rest) ⟨fr,hp⟩:=ZI hx hy hh ht hm hoff hs h
theorem Al {T : TypeId} {d:TypeDesc} {m b k t:Nat} {z:Value} {c:List D} (h:AWl Tryz.prog s0 n ops Q rest ⟨(t,.ptr k 0) :: fr,hp'⟩) (ht:Tab Tryz.prog T d m b z:=by exact Ad rfl) (hT:Nat.beq T 139 = false:=by exact rfl) (h1:Gd z.cells.toList = true:=by exact rfl) (hd:Nat.blt t n = true:=by exact rfl) (hc:Zb z.cells.toList = some c:=by exact rfl) (hk:GM hp = some k:=by exact rfl) (hs:DS hp (.var T (c.map .d)) = some hp':=by exact rfl):AWl Tryz.prog s0 n ops Q (⟨some t,.alloc T,ty,ps,af,none⟩ :: rest) ⟨fr,hp⟩:=A0V ht hT h1 hd hc hk hs h
theorem Bx {T : TypeId} {ds:List D} {k t:Nat} (h:AWl P s0 n ops Q rest ⟨(t,.ptr k 0) :: fr,hp'⟩) (hx:AS.arg ⟨fr,hp⟩ x = .d (BF ds):=by exact ao rfl) (hT:Nat.beq T 139 = false:=by exact rfl) (hd:Nat.blt t n = true:=by exact rfl) (hk:GM hp = some k:=by exact rfl) (hs:DS hp (.var T (ds.map .d)) = some hp':=by exact rfl):AWl P s0 n ops Q (⟨some t,.box T x,ty,ps,af,none⟩ :: rest) ⟨fr,hp⟩:=A0U hx hT hd hk hs h
theorem Ap {x y:Operand} {t T T2 sz bytes id m b e:Nat} {z z':Value} {d:TypeDesc} {rows r2:List (List D)} {fr':List (Nat × AV)} (h:AWl Tryz.prog s0 n ops Q rest ⟨(e,.own id) :: fr',hp'⟩) (hx:AS.arg ⟨fr,hp⟩ x = .own id:=by exact ao rfl) (hy:Et hp (AS.arg ⟨fr,hp⟩ y) = some (slD T2 sz r2):=by exact rfl) (hh:hp[id]? = some (.row T sz rows):=by exact rfl) (ht:Tab Tryz.prog t (.slice T) m b z':=by exact Ad rfl) (hT:Tab Tryz.prog T d sz bytes z:=by exact Ad rfl) (hzs:z.cells.size = sz:=by exact rfl) (hd:Nat.blt e n = true:=by exact rfl) (hbytes:(rows.length+r2.length)*bytes≤140737488355328:=by simp;omega) (h63:rows.length+r2.length≤4611686018427387904:=by simp;omega) (hf:DN id (slD T sz rows) fr = some fr':=by exact rfl) (hpl:PlainHp id hp:=by repeat (first | exact PlainHp.nil | refine PlainHp.var ?_ | refine CX ?_ | refine PlainHp.dead ?_ | refine PlainHp.obj ?_ | refine PlainHp.pin rfl ?_ | refine CH rfl ?_)) (hs:Db hp id (.row T sz (rows ++ r2)) = some hp':=by exact rfl):AWl Tryz.prog s0 n ops Q (⟨some e,.call { callee:=.builtin .append,args:=#[x,y],argTypes:=#[t,t] },ty,ps,af,none⟩ :: rest) ⟨fr,hp⟩:=ZL hx hy hh ht hT hzs hd hbytes h63 hf hpl hs h
end
section
variable {hp : List Ow} {m T z:Nat} {l l':List Ow}
theorem Yr {r : List (List D)} (h:HpLe hp m l l'):HpLe hp m (.row T z r :: l) (.row T z r :: l'):=HpLe.cons (Cp rfl) h
theorem Yv {c : List D} (h:HpLe hp m l l'):HpLe hp m (.var T (c.map .d) :: l) (.var T (c.map .d) :: l'):=HpLe.cons (GD rfl) h
theorem Yd {t : Nat} {x:D} {f r:List (Nat × AV)} (h:FrLe hp m f r) (hk:CG f t = some (.d x):=by exact rfl):FrLe hp m f ((t,.d x) :: r):=FrLe.cons hk (AVle.d rfl) h
theorem Yp {t i o:Nat} {f r:List (Nat × AV)} (h:FrLe hp m f r) (hk:CG f t = some (.ptr i o):=by exact rfl) (hi:Nat.blt i m = true:=by exact rfl):FrLe hp m f ((t,.ptr i o) :: r):=FrLe.cons hk (AVle.ptr hi) h
end
theorem Po {hp : List Ow} {av:AV} {y:D} (h:Et hp av = some y) (h1:One hp av:=by first | exact GX rfl | exact One.sl | exact My):PartOk hp av [y]:=.one h h1
theorem Dr {P : Program} {s0:An} {n:Nat} {Q:Exit→AS→Prop} {fr:List (Nat × AV)} {hp:List Ow} {id:Nat} {L:List Oper} (es:List (List (Nat × Nat))) (bs:List (List Nat)) (h:HS P ⟨fr,hp⟩ (fun rs=>∃ τ,OO fr hp es.length L rs = some τ∧AWl P s0 n L.toArray Q (L.drop es.length) τ) [] L es) (hm:P.follows .mixedOrders = true:=by kernel_rfl) (hlen:(es.length == bs.length && Nat.ble es.length L.length) = true:=by exact rfl) (hok:CJ L (DT 0 es bs) = true:=by kernel_rfl) (hd:EL L es.length n = true:=by kernel_rfl) (hlt:Jp 0 L es = true:=by kernel_rfl):AWp P s0 n (.region id L.toArray true) Q ⟨fr,hp⟩:=Hc (Rf hm) es bs hlen hok hd hlt h
theorem K4 {e : Nat} {a b c d:Oper} {l l':List Oper} (h:AddE e l l'):AddE e (a :: b :: c :: d :: l) (a :: b :: c :: d :: l'):=.keep (.keep (.keep (.keep h)))
def fT (f : Rat→Rat) (t:Tm):Tm:=⟨f t.c,t.m⟩
def Gr (f : Rat→Rat) (P Q:List Tm):List Tm:=CW P (Q.map (fT f))
theorem YX {f : Rat→Rat} {s t:Tm} {P Q:List Tm} (h:lx s.m t.m = 1):Gr f (s :: P) (t :: Q) = s :: Gr f P (t :: Q):=by
 unfold Gr
 rw [List.map_cons,CW,if_pos (show 0<lx s.m (fT f t).m by show 0<lx s.m t.m;omega)]
theorem YW {f : Rat→Rat} {s t:Tm} {P Q:List Tm} (h:lx s.m t.m = -1):Gr f (s :: P) (t :: Q) = fT f t :: Gr f (s :: P) Q:=by
 unfold Gr
 rw [List.map_cons,CW,if_neg (show ¬ 0<lx s.m (fT f t).m by show ¬ 0<lx s.m t.m;omega),if_pos (show lx s.m (fT f t).m<0 by show lx s.m t.m<0;omega)]
theorem Tl {f : Rat→Rat} {s t:Tm} {P Q:List Tm} (h:lx s.m t.m = 0):Gr f (s :: P) (t :: Q) = if s.c+f t.c = 0 then Gr f P Q else ⟨s.c+f t.c,s.m⟩ :: Gr f P Q:=by
 unfold Gr
 rw [List.map_cons,CW,if_neg (show ¬ 0<lx s.m (fT f t).m by show ¬ 0<lx s.m t.m;omega),if_neg (show ¬ lx s.m (fT f t).m<0 by show ¬ lx s.m t.m<0;omega)]
 rfl
theorem PY {f : Rat→Rat} {P Q:List Tm} (h:P = []∨Q = []):Gr f P Q = P ++ Q.map (fT f):=by
 rcases h with rfl | rfl
 ·simp [Gr,CW]
 ·simp [Gr,Ov]
theorem Ux (P Q:List Tm) (fid:FuncId) (f:Rat→Rat) (N M:Nat) (hP:PSz P N) (hQ:PSz Q M) (hNM:N+M+1≤4398046511104) (hfs:∀ q,RSz q M→RSz (f q) M) (hn:P.length+Q.length≤100000)
  (hf:∀ q,RSz q M→Abs Tryz.prog fid [BF (BH q)] (BF (BH (f q)))) :
  Abs Tryz.prog 89 [Bi P,Bi Q,ex (.func (.func fid) #[] #[])] (Bi (Gr f P Q)):=by
 refine Ab Tryz.func89 fun s0=>?_
 rw [Tryz.ntmps89]
 refine Y1<|Wa<|Y0<|Y1<|Wm ?_;refine Wq AH ?_;refine Wm ?_;refine Wq AH ?_;refine Wq El ?_;refine TN (ao rfl) (ao rfl) (Ad rfl) (Ad rfl) (by omega) (by omega) rfl rfl rfl rfl rfl rfl ?_;refine Wa<|Y0<|Ac<|AWp.block ?_
 refine Ba (fun m σ=>∃ P' Q' R,R ++ Gr f P' Q' = Gr f P Q∧PSz P' N∧PSz Q' M∧R.length+P'.length+Q'.length≤100000∧m = P'.length+Q'.length∧σ = ⟨[(0,.d (Bi P')),(1,.d (Bi Q')),(2,.d (ex (.func (.func fid) #[] #[]))),(7,.own 0)],[.row 72 12 (R.map Iy)]⟩) ?le ⟨P,Q,[],rfl,hP,hQ,by simpa using hn,rfl,rfl⟩ ?round
 case le=>exact Aq (by exact Yd<|Yd<|Yd<|FrLe.cons rfl (AVle.own rfl)<|FrLe.nil) (by exact Yr<|HpLe.nil)
 case round =>
  rintro m _ ⟨P',Q',R,heq,hP',hQ',hl,rfl,rfl⟩
  rcases (show (0<P'.length∧0<Q'.length)∨P'.length = 0∨(0<P'.length∧Q'.length = 0) by omega) with ⟨h1,h2⟩ | h1 | ⟨h1,h2⟩
  ·obtain ⟨s, P', rfl⟩ : ∃ s P1, P' = s :: P1 := by cases P' with | nil => simp at h1 | cons s P1 => exact ⟨s, P1, rfl⟩
   obtain ⟨t,Q',rfl⟩:∃ t Q1,Q' = t :: Q1:=by cases Q' with | nil=>simp at h2 | cons t Q1=>exact ⟨t,Q1,rfl⟩
   simp only [List.length_cons] at hl
   have hs:=hP' s (by simp)
   have ht:=hQ' t (by simp)
   have hP1:PSz P' N:=fun u hu=>hP' u (by simp [hu])
   have hQ1:PSz Q' M:=fun u hu=>hQ' u (by simp [hu])
   refine Ac<|Y1<|Wm ?_;refine Wq AH ?_;refine Wq Am ?_;refine Wm ?_;refine Wg Af ?_;refine Wg AH ?_;refine Wg Am ?_;refine Wq AP ?_;apply Y0;refine Ct ?_;refine Ys<|AWp.block<|Ac ?_
   refine Dr [[],[(25,0)],[(26,1)],[(27,2)],[],[(29,4)],[(30,5)],[(31,6)],[(28,3),(32,7)]] [[],[0],[0,1],[0,1,2],[],[4],[4,5],[4,5,6],[0,1,2,3,4,5,6,7]] ?_
   refine Xq Af ?_;refine Xq Ed ?_;refine Xq Bb ?_;refine Xq AA ?_;refine Xq Af ?_;refine Xq Ed ?_;refine Xq Bb ?_;refine Xq AA ?_;refine Xq (Ag (Xi s.m t.m)) ?_;refine ⟨_,rfl,?_⟩
   rcases JP s.m t.m with hc | hc | hc
   ·have hc' : Fa s.m t.m = -1 := by rw [← GK]; exact hc
    simp only [hc']
    refine Y0<|AWp.block<|Y1 ?_;refine Wq Ak ?_;refine Wa<|Y0 ?_;refine Cf ?_;apply Y1;refine Wq Am ?_;refine Wa<|Y0 ?_;refine Ct ?_;apply Ac
    refine Dr [[],[],[],[(75,2)],[(76,3)],[(77,4)],[(74,1),(78,5)],[],[(80,7)],[(81,8)],[(82,9)],[(79,6),(83,10)],[(84,11)]] [[],[],[],[2],[2,3],[2,3,4],[1,2,3,4,5],[],[7],[7,8],[7,8,9],[1,2,3,4,5,6,7,8,9,10],[1,2,3,4,5,6,7,8,9,10,11]] ?_
    refine Xq Af ?_;refine Xq Af ?_;refine Xq Af ?_;refine Xq Ed ?_;refine Xq Bb ?_;refine Xq CY ?_;refine Xq (Ag (hf t.c ht)) ?_;refine Xq Af ?_;refine Xq Ed ?_;refine Xq Bb ?_;refine Xq AA ?_;(refine Hq rfl ?_;refine BO (Ad rfl) rfl rfl rfl ?_;(repeat ((first | refine ⟨_,AK (ah rfl),?_⟩ | refine ⟨_,Po rfl,?_⟩);refine ⟨_,rfl,?_⟩));refine ⟨_,rfl,?_⟩;refine ⟨_,rfl,?_⟩);(refine Xq (By (ah rfl) (Ad rfl) (Ad rfl) rfl rfl rfl rfl rfl) ?_);refine ⟨_,rfl,?_⟩
    (refine Ap ?_);refine Wa<|Y0<|AWp.region<|Wm ?_;refine Wq GA ?_;refine Wa ?_;apply AWl.nil;apply Ai;apply Ai
    refine ALoop.next _ ?_ ⟨s :: P',Q',R ++ [fT f t],?_,hP',hQ1,?_,rfl,rfl⟩ ?_
    ·simp only [List.length_cons];omega
    ·rw [YW hc] at heq
     rw [← heq];simp
    ·simp only [List.length_cons,List.length_append,List.length_nil];omega
    ·exact Aq (by exact Yd<|Yd<|Yd<|FrLe.cons rfl (AVle.own rfl)<|FrLe.nil) (by refine HpLe.cons (Cp (Dn Iy R (fT f t))) ?_;exact HpLe.nil)
   ·have hc' : Fa s.m t.m = 0 := by rw [← GK]; exact hc
    simp only [hc']
    refine Y0<|AWp.block<|Y1 ?_;refine Wq Ak ?_;refine Wa<|Y0 ?_;refine Cf ?_;apply Y1;refine Wq Ak ?_;refine Wa<|Y0 ?_;refine Cf ?_;refine Ac<|Ac ?_
    refine Dr [[],[(34,0)],[(35,1)],[(36,2)],[],[],[(39,5)],[(40,6)],[(41,7)],[(38,4),(42,8)],[(37,3),(43,9)],[]] [[],[0],[0,1],[0,1,2],[],[],[5],[5,6],[5,6,7],[4,5,6,7,8],[0,1,2,3,4,5,6,7,8,9],[]] ?_
    refine Xq Af ?_;refine Xq Ed ?_;refine Xq Bb ?_;refine Xq CY ?_;refine Xq Af ?_;refine Xq Af ?_;refine Xq Ed ?_;refine Xq Bb ?_;refine Xq CY ?_;refine Xq (Ag (hf t.c ht)) ?_;refine Xq (Ag (ZH s.c (f t.c) N M hs (hfs _ ht) hNM)) ?_;refine Xn ?_;refine ⟨_,rfl,?_⟩
    by_cases hz:s.c+f t.c = 0
    ·have hsg : (s.c + f t.c).num.sign = 0 := by rw [hz]; rfl
     refine Sf ?_;refine Y0<|Y1 ?_;refine Wq Ar ?_;refine Wq (Ag (BR (s.c+f t.c))) ?_;refine Wq Ak ?_;apply Y0;refine Cf ?_;apply Ys
     refine Dr [[],[(57,0)],[],[(59,2)],[(58,1)]] [[],[0],[],[2],[0,1]] ?_
     refine Xq Af ?_;refine Xq GA ?_;refine Xq Af ?_;refine Xq GA ?_;refine Xq NO ?_;refine ⟨_,rfl,?_⟩
     refine Wa ?_;apply AWl.nil;apply Ai;apply Ai
     refine ALoop.next _ ?_ ⟨P',Q',R,?_,hP1,hQ1,?_,rfl,rfl⟩ ?_
     ·simp only [List.length_cons];omega
     ·rw [Tl hc,if_pos hz] at heq
      exact heq
     ·omega
     ·exact Aq (by exact Yd<|Yd<|Yd<|FrLe.cons rfl (AVle.own rfl)<|FrLe.nil) (by exact Yr<|HpLe.nil)
    ·have hsg : (s.c + f t.c).num.sign ≠ 0 := by simpa using hz
     refine Sf ?_;refine Y0<|Y1 ?_;refine Wq Ar ?_;refine Wq (Ag (BR (s.c+f t.c))) ?_;refine Wq Am ?_;apply Y0;refine Ct ?_
     refine Dr [[],[],[],[(50,2)],[(51,3)],[(52,4)],[(49,1),(53,5)],[(54,6)]] [[],[],[],[2],[2,3],[2,3,4],[1,2,3,4,5],[1,2,3,4,5,6]] ?_
     refine Xq Af ?_;refine Xq Ar ?_;refine Xq Af ?_;refine Xq Ed ?_;refine Xq Bb ?_;refine Xq AA ?_;(refine Hq rfl ?_;refine BO (Ad rfl) rfl rfl rfl ?_;(repeat ((first | refine ⟨_,AK (ah rfl),?_⟩ | refine ⟨_,Po rfl,?_⟩);refine ⟨_,rfl,?_⟩));refine ⟨_,rfl,?_⟩;refine ⟨_,rfl,?_⟩);(refine Xq (By (ah rfl) (Ad rfl) (Ad rfl) rfl rfl rfl rfl rfl) ?_);refine ⟨_,rfl,?_⟩
     (refine Ap ?_);refine Wa<|Y0 ?_
     refine Dr [[],[(57,0)],[],[(59,2)],[(58,1)]] [[],[0],[],[2],[0,1]] ?_
     refine Xq Af ?_;refine Xq GA ?_;refine Xq Af ?_;refine Xq GA ?_;refine Xq NO ?_;refine ⟨_,rfl,?_⟩
     refine Wa ?_;apply AWl.nil;apply Ai;apply Ai
     refine ALoop.next _ ?_ ⟨P',Q',R ++ [⟨s.c+f t.c,s.m⟩],?_,hP1,hQ1,?_,rfl,rfl⟩ ?_
     ·simp only [List.length_cons];omega
     ·rw [Tl hc,if_neg hz] at heq
      rw [← heq];simp
     ·simp only [List.length_append,List.length_cons,List.length_nil];omega
     ·exact Aq (by exact Yd<|Yd<|Yd<|FrLe.cons rfl (AVle.own rfl)<|FrLe.nil) (by exact HpLe.cons (Cp (Dn Iy R ⟨s.c+f t.c,s.m⟩))<|HpLe.nil)
   ·have hc' : Fa s.m t.m = 1 := by rw [← GK]; exact hc
    simp only [hc']
    refine Y0<|AWp.block<|Y1 ?_;refine Wq Am ?_;refine Wa<|Y0 ?_;refine Ct ?_;refine Y1<|Wm<|Wm ?_;refine Wq Ed ?_;refine Wq AA ?_;refine Wq (By (ao rfl) (Ad rfl) (Ad rfl) rfl rfl rfl rfl rfl) ?_;(refine Ap ?_);refine Wa<|Y0<|AWp.region<|Wm ?_;refine Wq GA ?_;refine Wa ?_;apply AWl.nil;apply Ai;apply Ai
    refine ALoop.next _ ?_ ⟨P',t :: Q',R ++ [s],?_,hP1,hQ',?_,rfl,rfl⟩ ?_
    ·simp only [List.length_cons];omega
    ·rw [YX hc] at heq
     rw [← heq];simp
    ·simp only [List.length_cons,List.length_append,List.length_nil];omega
    ·exact Aq (by exact Yd<|Yd<|Yd<|FrLe.cons rfl (AVle.own rfl)<|FrLe.nil) (by exact HpLe.cons (Cp (Dn Iy R s))<|HpLe.nil)
  ·have hmn : Gr f P' Q' = P' ++ Q'.map (fT f) := PY (by first | exact .inl (List.eq_nil_of_length_eq_zero (by omega)) | exact .inr (List.eq_nil_of_length_eq_zero (by omega)))
   refine Ac<|Y1<|Wm ?_;refine Wq AH ?_;refine Wq Ak ?_;refine Wm ?_;refine Ws ?_;refine Ws ?_;refine Ws ?_;refine Wq AD ?_;apply Y0;refine Cf ?_;apply AZ;apply AE;apply AM;apply AF;refine Yn<|Y1<|Wm<|Wm ?_;(refine Ap ?_);refine Wa<|Y0<|Ac<|Y1<|Wm ?_;refine Wq AH ?_;refine Wm<|Y0<|AWp.block ?_
   refine Ba (fun m σ=>∃ k,k≤Q'.length∧m = Q'.length - k∧σ = ⟨[(2,.d (ex (.func (.func fid) #[] #[]))),(7,.own 0),(92,.d (Bi Q')),(93,.d (ex (.int .i64 (Q'.length:Nat)))),(94,.d (ex (.int .i64 (k:Nat))))],[.row 72 12 ((R ++ P' ++ (Q'.take k).map (fT f)).map Iy)]⟩) ?le ⟨0,by omega,rfl,rfl⟩ ?round
   case le=>exact Aq (by repeat (first | exact FrLe.nil | refine Yd ?_ | refine FrLe.cons rfl (AVle.own rfl) ?_)) (HpLe.cons (Cp (by simp)) HpLe.nil)
   case round =>
    rintro m _ ⟨k,hk,rfl,rfl⟩
    by_cases hlt:k<Q'.length
    ·have ht:=hQ' _ (Dc hlt)
     have htk:=Fo hlt
     apply Y1;refine Wq Am ?_;refine Y0<|Ac ?_;refine Ct ?_;refine Ys<|Ac<|AWp.block<|Y1 ?_;refine Wq Az ?_;refine Wq AA ?_;refine Al ?_;refine Sf ?_;apply Y0
     refine Dr [[],[],[],[(100,2)],[(99,1),(101,3)],[],[(103,5)],[(102,4),(104,6)],[(105,7)]] [[],[],[],[2],[1,2,3],[],[5],[1,2,3,4,5,6],[1,2,3,4,5,6,7]] ?_
     refine Xq Af ?_;refine Xq Af ?_;refine Xq Ao ?_;refine Xq Ar ?_;refine Xq (Ag (hf (AQ Q' k).c ht)) ?_;refine Xq Ao ?_;refine Xq Ar ?_;(refine Hq rfl ?_;refine BO (Ad rfl) rfl rfl rfl ?_;(repeat ((first | refine ⟨_,AK (ah rfl),?_⟩ | refine ⟨_,Po rfl,?_⟩);refine ⟨_,rfl,?_⟩));refine ⟨_,rfl,?_⟩;refine ⟨_,rfl,?_⟩);(refine Xq (By (ah rfl) (Ad rfl) (Ad rfl) rfl rfl rfl rfl rfl) ?_);refine ⟨_,rfl,?_⟩
     (refine Ap ?_);refine Wa ?_;apply AWl.nil;apply Ai;refine Yn<|AWp.region ?_;refine Wq AR ?_;refine Wm ?_;apply AWl.nil
     refine ALoop.next (Q'.length - (k+1)) (by omega) ⟨k+1,by omega,rfl,rfl⟩ ?_
     exact Aq (by exact Yd<|FrLe.cons rfl (AVle.own rfl)<|Yd<|Yd<|Yd<|FrLe.nil) (by (refine HpLe.cons (Cp ((Dn Iy _ (fT f (AQ Q' k))).trans (by rw [← htk];simp))) ?_);exact HpLe.nil)
    ·obtain rfl : k = Q'.length := by omega
     apply Y1;refine Wq Ak ?_;refine Y0<|Ac ?_;refine Cf ?_;apply AZ;apply AE;apply AM;apply AF;refine Yn<|Y1<|Wm<|Wa<|Y0 ?_;apply As
     refine Bd (Rets.one rfl rfl (Bc ?_))
     rw [List.take_length,List.append_assoc,← hmn,heq]
     rfl
  ·have hmn : Gr f P' Q' = P' ++ Q'.map (fT f) := PY (by first | exact .inl (List.eq_nil_of_length_eq_zero (by omega)) | exact .inr (List.eq_nil_of_length_eq_zero (by omega)))
   refine Ac<|Y1<|Wm ?_;refine Wq AH ?_;refine Wq Am ?_;refine Wm ?_;refine Wg Af ?_;refine Wg AH ?_;refine Wg Ak ?_;refine Wq AP ?_;apply Y0;refine Cf ?_;apply AZ;apply AE;apply AM;apply AF;refine Yn<|Y1<|Wm<|Wm ?_;(refine Ap ?_);refine Wa<|Y0<|Ac<|Y1<|Wm ?_;refine Wq AH ?_;refine Wm<|Y0<|AWp.block ?_
   refine Ba (fun m σ=>∃ k,k≤Q'.length∧m = Q'.length - k∧σ = ⟨[(2,.d (ex (.func (.func fid) #[] #[]))),(7,.own 0),(92,.d (Bi Q')),(93,.d (ex (.int .i64 (Q'.length:Nat)))),(94,.d (ex (.int .i64 (k:Nat))))],[.row 72 12 ((R ++ P' ++ (Q'.take k).map (fT f)).map Iy)]⟩) ?le ⟨0,by omega,rfl,rfl⟩ ?round
   case le=>exact Aq (by repeat (first | exact FrLe.nil | refine Yd ?_ | refine FrLe.cons rfl (AVle.own rfl) ?_)) (HpLe.cons (Cp (by simp)) HpLe.nil)
   case round =>
    rintro m _ ⟨k,hk,rfl,rfl⟩
    by_cases hlt:k<Q'.length
    ·have ht:=hQ' _ (Dc hlt)
     have htk:=Fo hlt
     apply Y1;refine Wq Am ?_;refine Y0<|Ac ?_;refine Ct ?_;refine Ys<|Ac<|AWp.block<|Y1 ?_;refine Wq Az ?_;refine Wq AA ?_;refine Al ?_;refine Sf ?_;apply Y0
     refine Dr [[],[],[],[(100,2)],[(99,1),(101,3)],[],[(103,5)],[(102,4),(104,6)],[(105,7)]] [[],[],[],[2],[1,2,3],[],[5],[1,2,3,4,5,6],[1,2,3,4,5,6,7]] ?_
     refine Xq Af ?_;refine Xq Af ?_;refine Xq Ao ?_;refine Xq Ar ?_;refine Xq (Ag (hf (AQ Q' k).c ht)) ?_;refine Xq Ao ?_;refine Xq Ar ?_;(refine Hq rfl ?_;refine BO (Ad rfl) rfl rfl rfl ?_;(repeat ((first | refine ⟨_,AK (ah rfl),?_⟩ | refine ⟨_,Po rfl,?_⟩);refine ⟨_,rfl,?_⟩));refine ⟨_,rfl,?_⟩;refine ⟨_,rfl,?_⟩);(refine Xq (By (ah rfl) (Ad rfl) (Ad rfl) rfl rfl rfl rfl rfl) ?_);refine ⟨_,rfl,?_⟩
     (refine Ap ?_);refine Wa ?_;apply AWl.nil;apply Ai;refine Yn<|AWp.region ?_;refine Wq AR ?_;refine Wm ?_;apply AWl.nil
     refine ALoop.next (Q'.length - (k+1)) (by omega) ⟨k+1,by omega,rfl,rfl⟩ ?_
     exact Aq (by exact Yd<|FrLe.cons rfl (AVle.own rfl)<|Yd<|Yd<|Yd<|FrLe.nil) (by (refine HpLe.cons (Cp ((Dn Iy _ (fT f (AQ Q' k))).trans (by rw [← htk];simp))) ?_);exact HpLe.nil)
    ·obtain rfl : k = Q'.length := by omega
     apply Y1;refine Wq Ak ?_;refine Y0<|Ac ?_;refine Cf ?_;apply AZ;apply AE;apply AM;apply AF;refine Yn<|Y1<|Wm<|Wa<|Y0 ?_;apply As
     refine Bd (Rets.one rfl rfl (Bc ?_))
     rw [List.take_length,List.append_assoc,← hmn,heq]
     rfl
theorem Yl (q : Rat):Abs Tryz.prog 90 [BF (BH q)] (BF (BH q)):=by
 refine Ab Tryz.func90 fun s0=>?_
 rw [Tryz.ntmps90]
 apply Y1;refine Bx ?_;refine Al ?_;refine Y0<|Y1 ?_;refine Wq Ar ?_;refine Sf ?_;apply Y0;apply As
 exact Bd (Rets.of1 (ResV.cell rfl rfl (Ad rfl) rfl rfl rfl) (D.le.refl _))
theorem Yb (P Q:List Tm) (N M:Nat) (hP:PSz P N) (hQ:PSz Q M) (hNM:N+M+1≤4398046511104) (hn:P.length+Q.length≤100000):Abs Tryz.prog 47 [Bi P,Bi Q] (Bi (CW P Q)):=by
 have he:Gr (fun q=>q) P Q = CW P Q:=by
  unfold Gr
  have:Q.map (fT fun q=>q) = Q:=List.map_id Q
  rw [this]
 refine Ab Tryz.func47 fun s0=>?_
 rw [Tryz.ntmps47]
 refine Y1<|Wa<|Y0<|Y1<|Wm<|Wm ?_;refine Wq (Ag (Ux P Q 90 (fun q=>q) N M hP hQ hNM (fun _ h=>h) hn (fun q _=>Yl q))) ?_;refine Wa<|Y0 ?_;apply As
 exact Bd (Rets.of1 (ResV.tmp rfl rfl) (Do he))
def Dl (c : Rat):List Tm:=if c = 0 then [] else [⟨c,fun _=>0⟩]
def Gi (i : Nat):Nat→Int:=TZ (fun _=>0) i 1
theorem QZ (c : Rat) (m:Nat→Int) (P:List Tm) (hc:c = 0):Abs Tryz.prog 46 [BF (BH c),BF (Cd m),Bi P] (Da [Bi [],ex (.int .i64 0)]):=by
 have hs:=CT.2 hc
 refine Ab Tryz.func46 fun s0=>?_
 rw [Tryz.ntmps46]
 apply Y1;refine Bx ?_;refine Bx ?_;refine Wa<|Wa<|Y0<|Ac<|Y1 ?_;refine Wq Ar ?_;refine Wq (Ag (BR c)) ?_;refine Wq Am ?_;apply Y0;refine Ct ?_;refine Y1<|Wa<|Wa<|Y0 ?_;apply As;apply AJ
 exact Bd (Co (ResV.tmp rfl rfl) (ResV.tmp rfl rfl) (BW (Fk) (D.le.refl _)))
theorem Sy (c : Rat) (m:Nat→Int) (P:List Tm) (N M:Nat) (hc:c ≠ 0) (hcs:RSz c N) (hm:In8 m 0 65535) (hP:PSz P M) (hPi:PIn P 0 65535) (hmP:∀ t∈P,In8 (AU m t.m) 0 65535) (hn:P.length≤100000) (hNM:N+M≤4398046511104):Abs Tryz.prog 46 [BF (BH c),BF (Cd m),Bi P] (Da [Bi (MS c m P),ex (.int .i64 0)]):=by
 have hs:c.num.sign ≠ 0:=fun e=>hc (CT.1 e)
 refine Ab Tryz.func46 fun s0=>?_
 rw [Tryz.ntmps46]
 apply Y1;refine Bx ?_;refine Bx ?_;refine Wa<|Wa<|Y0<|Ac<|Y1 ?_;refine Wq Ar ?_;refine Wq (Ag (BR c)) ?_;refine Wq Ak ?_;apply Y0;refine Cf ?_;refine Ys<|Y1<|Wm ?_;refine Wq AH ?_;refine TN (ao rfl) (ao rfl) (Ad rfl) (Ad rfl) (by omega) (by omega) rfl rfl rfl rfl rfl rfl ?_;refine Wa<|Y0<|Ac<|Y1<|Wm ?_;refine Wq AH ?_;refine Wm<|Y0<|AWp.block ?_
 refine Ba (fun mz σ=>∃ k,k≤P.length∧mz = P.length - k∧σ = ⟨[(3,.ptr 0 0),(4,.ptr 1 0),(7,.d (ex (.int .i64 0))),(8,.own 2),(19,.d (Bi P)),(20,.d (ex (.int .i64 (P.length:Nat)))),(21,.d (ex (.int .i64 (k:Nat))))],[.var 54 ((BH c).map .d),.var 70 ((Cd m).map .d),.row 72 12 ((MS c m (P.take k)).map Iy)]⟩) ?le ⟨0,by omega,rfl,rfl⟩ ?round
 case le=>exact Aq (by exact Yp<|Yp<|Yd<|FrLe.cons rfl (AVle.own rfl)<|Yd<|Yd<|Yd<|FrLe.nil) (by exact Yv<|Yv<|Yr<|HpLe.nil)
 case round =>
  rintro mz _ ⟨k,hk,rfl,rfl⟩
  by_cases hlt:k<P.length
  ·have ht:=Dc hlt
   have htk:=Fo hlt
   apply Y1;refine Wq Am ?_;refine Y0<|Ac ?_;refine Ct ?_;refine Ys<|Ac<|AWp.block<|Y1 ?_;refine Wq Az ?_;refine Wq AA ?_;refine Al ?_;refine Sf ?_;refine Y0<|Y1 ?_;refine Wq Ar ?_;refine Wq Ao ?_;refine Wq Ar ?_;refine Wq (Ag (Xf m (AQ P k).m hm (hPi _ ht) (hmP _ ht))) ?_;refine Wm ?_;refine Wq Bl ?_;refine Wq Bl ?_;refine Al ?_;refine Sf ?_;refine Wa<|Y0<|Ac<|Y1<|Wm ?_;refine Wq Ak ?_;apply Y0;refine Cf ?_;apply Ys
   refine Dr [[],[],[],[(37,2)],[(36,1),(38,3)],[],[(39,4),(40,5)],[(41,6)]] [[],[],[],[2],[1,2,3],[],[1,2,3,4,5],[1,2,3,4,5,6]] ?_
   refine Xq Af ?_;refine Xq Ar ?_;refine Xq Ao ?_;refine Xq Ar ?_;refine Xq (Ag (TH c (AQ P k).c N M hcs (hP _ ht) hNM)) ?_;refine Xq Ar ?_;(refine Hq rfl ?_;refine BO (Ad rfl) rfl rfl rfl ?_;(repeat ((first | refine ⟨_,AK (ah rfl),?_⟩ | refine ⟨_,Po rfl,?_⟩);refine ⟨_,rfl,?_⟩));refine ⟨_,rfl,?_⟩;refine ⟨_,rfl,?_⟩);(refine Xq (By (ah rfl) (Ad rfl) (Ad rfl) rfl rfl rfl rfl rfl) ?_);refine ⟨_,rfl,?_⟩
   (refine Ap ?_);refine Wa ?_;apply AWl.nil;apply Ai;refine Yn<|AWp.region ?_;refine Wq AR ?_;refine Wm ?_;apply AWl.nil
   refine ALoop.next (P.length - (k+1)) (by omega) ⟨k+1,by omega,rfl,rfl⟩ ?_
   exact Aq (by exact Yp<|Yp<|Yd<|FrLe.cons rfl (AVle.own rfl)<|Yd<|Yd<|Yd<|FrLe.nil) (by apply Yv;apply Yv;(refine HpLe.cons (Cp ((Dn Iy _ ⟨c*(AQ P k).c,AU m (AQ P k).m⟩).trans (by rw [← htk];simp [MS]))) ?_);exact HpLe.nil)
  ·obtain rfl : k = P.length := by omega
   apply Y1;refine Wq Ak ?_;refine Y0<|Ac ?_;refine Cf ?_;apply AZ;apply AE;apply AM;apply AF;refine Yn<|Y1<|Wm<|Wa<|Wa<|Y0 ?_;apply As
   exact Bd (Co (ResV.tmp rfl rfl) (ResV.tmp rfl rfl) (BW (Bc (by rw [List.take_length];rfl)) (D.le.refl _)))
def EU (b : Bool) (l:List Nat):Bool:=if l.length = 0 then !b else (((l.getD (l.length - 1) 0:Nat):Int) != 0)
theorem LH (b : Bool) (l:List Nat) (hn:l.length≤1000000000):Abs Tryz.prog 119 [BF [ex (.bool b),wD l]] (ex (.bool (EU b l))):=by
 refine Ab Tryz.func119 fun s0=>?_
 rw [Tryz.ntmps119]
 apply Y1;refine Bx ?_;refine Wa<|Y0<|Y1 ?_;refine Wq Ao ?_;refine Wq AB ?_;refine Wq TC ?_;refine Wa<|Y0<|Ac<|Y1<|Wm ?_;refine Wq Mv ?_;apply Y0
 by_cases h0:l.length = 0
 ·refine Ku (ao rfl) (decide_eq_true (by omega)) ?_; refine Ac<|AWp.region ?_; refine Wq Ao ?_; refine Wq AB ?_; refine Wq Br ?_; refine Wa ?_; apply AWl.nil; apply Yn; apply As; apply AJ
  exact Bd (Rets.of1 (ResV.tmp rfl rfl) (Bc (by rw [EU,if_pos h0])))
 ·refine Kv (ao rfl) (decide_eq_false (by omega)) ?_; apply BA; refine Yn<|Ac<|AWp.region ?_; refine Wq Ao ?_; refine Wq AB ?_; refine Wm ?_; refine Wq KQ ?_; refine Wq NM ?_; refine Wq BS ?_; refine Wq Mv ?_; refine Wa ?_; apply AWl.nil; apply Yn; apply As
  exact Bd (Rets.of1 (ResV.tmp rfl rfl) (Bc (by rw [EU,if_neg h0])))
theorem Ks (b : Bool) (l:List Nat) (hn:l.length≤1000000000):Abs Tryz.prog 64 [BF [ex (.bool b),wD l]] (ex (.bool (EU b l))):=by
 refine Ab Tryz.func64 fun s0=>?_
 rw [Tryz.ntmps64]
 apply Y1;refine Bx ?_;refine Wa<|Y0<|Y1 ?_;refine Wq Ao ?_;refine Wq AB ?_;refine Wq TC ?_;refine Wa<|Y0<|Ac<|Y1<|Wm ?_;refine Wq Mv ?_;apply Y0
 by_cases h0:l.length = 0
 ·refine Ku (ao rfl) (decide_eq_true (by omega)) ?_; refine Ac<|AWp.region ?_; refine Wq Ao ?_; refine Wq AB ?_; refine Wq Br ?_; refine Wa ?_; apply AWl.nil; apply Yn; apply As; apply AJ
  exact Bd (Rets.of1 (ResV.tmp rfl rfl) (Bc (by rw [EU,if_pos h0])))
 ·refine Kv (ao rfl) (decide_eq_false (by omega)) ?_; apply BA; refine Yn<|Ac<|AWp.region ?_; refine Wq Ao ?_; refine Wq AB ?_; refine Wm ?_; refine Wq KQ ?_; refine Wq NM ?_; refine Wq BS ?_; refine Wq Mv ?_; refine Wa ?_; apply AWl.nil; apply Yn; apply As
  exact Bd (Rets.of1 (ResV.tmp rfl rfl) (Bc (by rw [EU,if_neg h0])))
theorem La : ∀ {l:List Nat},l ≠ []→l.getD (l.length - 1) 0 ≠ 0→CN l = l
 | [],h,_=>absurd rfl h
 | [x],_,h=>by
  have h:x ≠ 0:=h
  simp [CN,h]
 | x :: y :: l,_,h=>by
  have h':(y :: l).getD ((y :: l).length - 1) 0 ≠ 0:=by
   have e:(x :: y :: l).getD ((x :: y :: l).length - 1) 0 = (y :: l).getD ((y :: l).length - 1) 0:=by simp
   rwa [e] at h
  have ih:=La (l:=y :: l) (by simp) h'
  rw [CN,ih]
theorem Id {b : Bool} {l:List Nat} (hs:Bg l) (h:EU b l = true):∃ z:Int,b = decide (z<0)∧l = Ah z.natAbs:=by
 unfold EU at h
 split at h
 ·rename_i h0
  obtain rfl:=List.eq_nil_of_length_eq_zero h0
  exact ⟨0,by simpa using h,by simp [Bk]⟩
 ·rename_i h0
  have h1:l ≠ []:=fun e=>h0 (by rw [e];rfl)
  have h2:l.getD (l.length - 1) 0 ≠ 0:=fun e=>by rw [e] at h;simp at h
  have h3:l = Ah (val l):=by rw [← AI hs,La h1 h2]
  have h4:val l ≠ 0:=fun e=>by rw [e,Bk] at h3;exact h1 h3
  cases b with
  | true=>exact ⟨-(val l:Int),by simp;omega,by simpa using h3⟩
  | false=>exact ⟨(val l:Int),by simp,by simpa using h3⟩
theorem Nu (z : Int):EU (decide (z<0)) (Ah z.natAbs) = true:=by
 unfold EU
 split
 ·rename_i h
  have:=AN.1 h
  have:z = 0:=by omega
  subst this
  rfl
 ·rename_i h
  have hd:(Ah z.natAbs).getD ((Ah z.natAbs).length - 1) 0 ≠ 0:=by
   have key:∀ n,n ≠ 0→(Ah n).getD ((Ah n).length - 1) 0 ≠ 0:=by
    intro n
    induction n using Nat.strongRecOn with
    | _ n ih =>
     intro hn
     rw [DB hn]
     by_cases h0:n / BB = 0
     ·rw [h0,Bk]
      have:n % BB = n:=Nat.mod_eq_of_lt (by have:=Nat.div_eq_zero_iff.1 h0;rcases this with h | h;exact absurd h (by decide);exact h)
      simpa [this] using hn
     ·have := ih (n / BB) (Nat.div_lt_self (Nat.pos_of_ne_zero hn) (by decide)) h0
      have hne:(Ah (n / BB)).length ≠ 0:=fun e=>h0 (AN.1 e)
      obtain ⟨m,hm⟩:∃ m,(Ah (n / BB)).length = m+1:=⟨(Ah (n / BB)).length - 1,by omega⟩
      rw [hm] at this
      simp only [List.length_cons,hm,Nat.add_sub_cancel,List.getD_cons_succ] at this ⊢
      exact this
   exact key _ fun e=>h (AN.2 e)
  simp only [bne_iff_ne,ne_eq]
  omega
def TG (b : Bool) (l:List Nat) (b':Bool) (l':List Nat):Prop:=∃ q:Rat,b = decide (q.num<0)∧l = Ah q.num.natAbs∧b' = decide ((q.den:Int)<0)∧l' = Ah (q.den:Int).natAbs
theorem To {x y:Int} (h:decide (x<0) = decide (y<0)) (h':Ah x.natAbs = Ah y.natAbs):x = y:=by
 have h1:x.natAbs = y.natAbs:=by rw [← Aj x.natAbs,h',Aj]
 have h2:(x<0)↔(y<0):=by simpa using h
 omega
theorem Jv (x y:Int):TG (decide (x<0)) (Ah x.natAbs) (decide (y<0)) (Ah y.natAbs)↔0<y∧Nat.gcd x.natAbs y.natAbs = 1:=by
 constructor
 ·rintro ⟨q,h1,h2,h3,h4⟩
  have e1:=To h1 h2
  have e2:=To h3 h4
  subst e1;subst e2
  exact ⟨by have:=q.den_pos;omega,q.reduced⟩
 ·rintro ⟨h1,h2⟩
  refine ⟨⟨x,y.natAbs,by omega,h2⟩,rfl,rfl,?_,?_⟩
  ·show decide (y<0) = decide (((y.natAbs:Nat):Int)<0)
   rw [decide_eq_false (show ¬ y<0 by omega),decide_eq_false (by omega)]
  ·show Ah y.natAbs = Ah ((y.natAbs:Nat):Int).natAbs
   rfl
theorem Pj {b : Bool} {l:List Nat} {b':Bool} {l':List Nat} (h:TG b l b' l'):EU b l = true∧EU b' l' = true:=by
 obtain ⟨q,rfl,rfl,rfl,rfl⟩:=h
 exact ⟨Nu _,Nu _⟩
def YM (b : Bool) (l:List Nat) (b':Bool) (l':List Nat):List D:=[ex (.bool b),wD l,ex (.bool b'),wD l']
open Classical in
theorem RD (b : Bool) (l:List Nat) (b':Bool) (l':List Nat) (hs:Bg l) (hs':Bg l') (hn:l.length≤1000000000) (hn':l'.length≤1000000000):Abs Tryz.prog 92 [BF (YM b l b' l')] (ex (.bool (decide (TG b l b' l')))):=by
 have c1:=LH b l hn
 have c2:=LH b' l' hn'
 cases h1:EU b l with
 | false =>
  have hq:¬ TG b l b' l':=fun h=>by rw [(Pj h).1] at h1;cases h1
  rw [h1] at c1
  rw [decide_eq_false hq]
  refine Ab Tryz.func92 fun s0=>?_
  rw [Tryz.ntmps92]
  apply Y1;refine Bx ?_;refine Wa<|Y0<|Ac<|Y1 ?_;refine Wq Ao ?_;refine Wq Ar ?_;refine Wq (Ag (c1)) ?_;refine Wq Br ?_;refine Wm ?_;refine Ws ?_;refine Ws ?_;refine Ws ?_;refine Ws ?_;refine Wq AP ?_;refine Wm ?_;refine Ws ?_;refine Ws ?_;refine Ws ?_;refine Ws ?_;refine Wq AP ?_;apply Y0;refine Ct ?_;refine Y1<|Wa<|Y0 ?_;apply As;apply AJ
  exact Yf
 | true =>
  rw [h1] at c1
  cases h2:EU b' l' with
  | false =>
   have hq:¬ TG b l b' l':=fun h=>by rw [(Pj h).2] at h2;cases h2
   rw [h2] at c2
   rw [decide_eq_false hq]
   refine Ab Tryz.func92 fun s0=>?_
   rw [Tryz.ntmps92]
   apply Y1;refine Bx ?_;refine Wa<|Y0<|Ac<|Y1 ?_;refine Wq Ao ?_;refine Wq Ar ?_;refine Wq (Ag (c1)) ?_;refine Wq Br ?_;refine Wm ?_;refine Wg Ao ?_;refine Wg Ar ?_;refine Wg (Ag (c2)) ?_;refine Wg Br ?_;refine Wq AD ?_;refine Wm ?_;refine Ws ?_;refine Ws ?_;refine Ws ?_;refine Ws ?_;refine Wq AP ?_;apply Y0;refine Ct ?_;refine Y1<|Wa<|Y0 ?_;apply As;apply AJ
   exact Yf
  | true =>
   rw [h2] at c2
   obtain ⟨x,rfl,rfl⟩:=Id hs h1
   obtain ⟨y,rfl,rfl⟩:=Id hs' h2
   by_cases hy:0<y
   ·have hsg:y.sign = 1:=Int.sign_eq_one_of_pos hy
    have c3:=Gv y
    by_cases hy1:y = 1
    ·rw [decide_eq_true hy1] at c3
     rw [decide_eq_true ((Jv x y).2 ⟨hy,by subst hy1;exact Nat.gcd_one_right _⟩)]
     refine Ab Tryz.func92 fun s0=>?_
     rw [Tryz.ntmps92]
     apply Y1;refine Bx ?_;refine Wa<|Y0<|Ac<|Y1 ?_;refine Wq Ao ?_;refine Wq Ar ?_;refine Wq (Ag (c1)) ?_;refine Wq Br ?_;refine Wm ?_;refine Wg Ao ?_;refine Wg Ar ?_;refine Wg (Ag (c2)) ?_;refine Wg Br ?_;refine Wq AD ?_;refine Wm ?_;refine Wg Ao ?_;refine Wg Ar ?_;refine Wg (Ag (Eg y)) ?_;refine Wg Ak ?_;refine Wq AD ?_;apply Y0;refine Cf ?_;refine Ys<|Y1 ?_;refine Wq Ao ?_;refine Wq Ar ?_;refine Wq (Ag (c3)) ?_;refine Wm ?_;refine Ws ?_;refine Ws ?_;refine Ws ?_;refine Ws ?_;refine Ws ?_;refine Ws ?_;refine Wq AP ?_;refine Wa<|Y0 ?_;apply As
     exact Yf
    ·rw [decide_eq_false hy1] at c3
     have hg:decide (TG (decide (x<0)) (Ah x.natAbs) (decide (y<0)) (Ah y.natAbs)) = decide (((Nat.gcd x.natAbs y.natAbs:Nat):Int) = 1):=by
      refine decide_eq_decide.2 ((Jv x y).trans ⟨fun h=>by omega,fun h=>⟨hy,by omega⟩⟩)
     rw [hg]
     refine Ab Tryz.func92 fun s0=>?_
     rw [Tryz.ntmps92]
     apply Y1;refine Bx ?_;refine Wa<|Y0<|Ac<|Y1 ?_;refine Wq Ao ?_;refine Wq Ar ?_;refine Wq (Ag (c1)) ?_;refine Wq Br ?_;refine Wm ?_;refine Wg Ao ?_;refine Wg Ar ?_;refine Wg (Ag (c2)) ?_;refine Wg Br ?_;refine Wq AD ?_;refine Wm ?_;refine Wg Ao ?_;refine Wg Ar ?_;refine Wg (Ag (Eg y)) ?_;refine Wg Ak ?_;refine Wq AD ?_;apply Y0;refine Cf ?_;refine Ys<|Y1 ?_;refine Wq Ao ?_;refine Wq Ar ?_;refine Wq (Ag (c3)) ?_;refine Wm ?_;refine Wg Ao ?_;refine Wg Ar ?_;refine Wg Ao ?_;refine Wg Ar ?_;refine Wg (Ag (Za x y (by omega) (by omega))) ?_;refine Wg (Ag (Gv (Nat.gcd x.natAbs y.natAbs:Nat))) ?_;refine Wq AD ?_;refine Wa<|Y0 ?_;apply As
     exact Yf
   ·have hsg : y.sign ≤ 0 := Int.sign_nonpos_iff.2 (by omega)
    rw [decide_eq_false fun h=>hy ((Jv x y).1 h).1]
    refine Ab Tryz.func92 fun s0=>?_
    rw [Tryz.ntmps92]
    apply Y1;refine Bx ?_;refine Wa<|Y0<|Ac<|Y1 ?_;refine Wq Ao ?_;refine Wq Ar ?_;refine Wq (Ag (c1)) ?_;refine Wq Br ?_;refine Wm ?_;refine Wg Ao ?_;refine Wg Ar ?_;refine Wg (Ag (c2)) ?_;refine Wg Br ?_;refine Wq AD ?_;refine Wm ?_;refine Wg Ao ?_;refine Wg Ar ?_;refine Wg (Ag (Eg y)) ?_;refine Wg Am ?_;refine Wq AD ?_;apply Y0;refine Ct ?_;refine Y1<|Wa<|Y0 ?_;apply As;apply AJ
    exact Yf
def A1k (b : Bool) (m:Nat) (b':Bool) (m':Nat):Int:=match b,b' with
 | true,true=>Di m' m
 | true,false=>-1
 | false,true=>1
 | false,false=>Di m m'
theorem Vr (b b':Bool) (m m':Nat):Abs Tryz.prog 66 [BF [ex (.bool b),wD (Ah m)],BF [ex (.bool b'),wD (Ah m')]] (ex (.int .i64 (A1k b m b' m'))):=by
 cases b <;> cases b'
 ·refine Ab Tryz.func66 fun s0 => ?_
  rw [Tryz.ntmps66]
  apply Y1;refine Bx ?_;refine Bx ?_;refine Wa<|Y0<|Ac<|Y1 ?_;refine Wq Ao ?_;refine Wq AB ?_;refine Wm ?_;refine Ws ?_;refine Ws ?_;refine Ws ?_;refine Wq AD ?_;apply Y0;refine Cf ?_;refine Ys<|Ac<|Y1 ?_;refine Wq Ao ?_;refine Wq AB ?_;refine Wq Br ?_;refine Wm ?_;refine Wg Ao ?_;refine Wg AB ?_;refine Wq AP ?_;apply Y0;refine Cf ?_;refine Ys<|Ac<|Y1 ?_;refine Wq Ao ?_;refine Wq AB ?_;apply Y0;refine Cf ?_;refine Ys<|Y1 ?_;refine Wq Ao ?_;refine Wq AB ?_;refine Wq Ao ?_;refine Wq AB ?_;refine Wq (Ag (Iv m m')) ?_;refine Wa<|Y0 ?_;apply As
  exact Yf
 ·refine Ab Tryz.func66 fun s0 => ?_
  rw [Tryz.ntmps66]
  apply Y1;refine Bx ?_;refine Bx ?_;refine Wa<|Y0<|Ac<|Y1 ?_;refine Wq Ao ?_;refine Wq AB ?_;refine Wm ?_;refine Ws ?_;refine Ws ?_;refine Ws ?_;refine Wq AD ?_;apply Y0;refine Cf ?_;refine Ys<|Ac<|Y1 ?_;refine Wq Ao ?_;refine Wq AB ?_;refine Wq Br ?_;refine Wm ?_;refine Wg Ao ?_;refine Wg AB ?_;refine Wq AP ?_;apply Y0;refine Ct ?_;refine Y1<|Wa<|Y0 ?_;apply As;apply AJ
  exact Yf
 ·refine Ab Tryz.func66 fun s0 => ?_
  rw [Tryz.ntmps66]
  apply Y1;refine Bx ?_;refine Bx ?_;refine Wa<|Y0<|Ac<|Y1 ?_;refine Wq Ao ?_;refine Wq AB ?_;refine Wm ?_;refine Wg Ao ?_;refine Wg AB ?_;refine Wg Br ?_;refine Wq AP ?_;apply Y0;refine Ct ?_;refine Y1<|Wa<|Y0 ?_;apply As;apply AJ
  exact Yf
 ·refine Ab Tryz.func66 fun s0 => ?_
  rw [Tryz.ntmps66]
  apply Y1;refine Bx ?_;refine Bx ?_;refine Wa<|Y0<|Ac<|Y1 ?_;refine Wq Ao ?_;refine Wq AB ?_;refine Wm ?_;refine Wg Ao ?_;refine Wg AB ?_;refine Wg Br ?_;refine Wq AP ?_;apply Y0;refine Cf ?_;refine Ys<|Ac<|Y1 ?_;refine Wq Ao ?_;refine Wq AB ?_;refine Wq Br ?_;refine Wm ?_;refine Ws ?_;refine Ws ?_;refine Wq AD ?_;apply Y0;refine Cf ?_;refine Ys<|Ac<|Y1 ?_;refine Wq Ao ?_;refine Wq AB ?_;apply Y0;refine Ct ?_;apply Y1;refine Wq Ao ?_;refine Wq AB ?_;refine Wq Ao ?_;refine Wq AB ?_;refine Wq (Ag (Iv m' m)) ?_;refine Wa<|Y0 ?_;apply As;apply AJ
  exact Yf
theorem Ie (x y:Nat):Di x y = ((x:Int) - y).sign:=by
 unfold Di
 rcases Nat.lt_trichotomy x y with h | h | h
 ·rw [if_pos h,Int.sign_eq_neg_one_of_neg (by omega)]
 ·subst h;simp
 ·rw [if_neg (by omega),if_pos h,Int.sign_eq_one_of_pos (by omega)]
theorem Vh (x y:Int):A1k (decide (x<0)) x.natAbs (decide (y<0)) y.natAbs = (x - y).sign:=by
 by_cases hx:x<0 <;> by_cases hy:y<0
 ·rw [decide_eq_true hx,decide_eq_true hy]
  show Di _ _ = _
  rw [Ie];congr 1;omega
 ·rw [decide_eq_true hx,decide_eq_false hy]
  show (-1:Int) = _
  rw [Int.sign_eq_neg_one_of_neg (by omega)]
 ·rw [decide_eq_false hx,decide_eq_true hy]
  show (1:Int) = _
  rw [Int.sign_eq_one_of_pos (by omega)]
 ·rw [decide_eq_false hx,decide_eq_false hy]
  show Di _ _ = _
  rw [Ie];congr 1;omega
theorem Vs (x y:Int):Abs Tryz.prog 66 [BF (DF x),BF (DF y)] (ex (.int .i64 (x - y).sign)):=by
 rw [← Vh]
 exact Vr _ _ _ _
theorem Xk (x y:Int):Abs Tryz.prog 122 [BF (DF x),BF (DF y)] (ex (.int .i64 (x - y).sign)):=by
 have hx:x.sign = -1∧x<0∨x.sign = 0∧x = 0∨x.sign = 1∧0<x:=by
  rcases Int.lt_trichotomy x 0 with h | h | h
  ·exact .inl ⟨Int.sign_eq_neg_one_of_neg h,h⟩
  ·exact .inr (.inl ⟨by rw [h];rfl,h⟩)
  ·exact .inr (.inr ⟨Int.sign_eq_one_of_pos h,h⟩)
 have hy:y.sign = -1∧y<0∨y.sign = 0∧y = 0∨y.sign = 1∧0<y:=by
  rcases Int.lt_trichotomy y 0 with h | h | h
  ·exact .inl ⟨Int.sign_eq_neg_one_of_neg h,h⟩
  ·exact .inr (.inl ⟨by rw [h];rfl,h⟩)
  ·exact .inr (.inr ⟨Int.sign_eq_one_of_pos h,h⟩)
 rcases (show x.sign<y.sign∨y.sign<x.sign∨(x.sign = y.sign∧x.sign<0)∨(x.sign = y.sign∧0≤x.sign) by omega) with h | h | h | h
 ·refine Ab Tryz.func122 fun s0 => ?_
  rw [Tryz.ntmps122]
  apply Y1;refine Bx ?_;refine Bx ?_;refine Wa<|Y0<|Ac ?_
  refine Dr [[],[(7,0)],[],[(9,2)]] [[],[0],[],[0,1,2]] ?_
  refine Xq Ar ?_;refine Xq (Ag (Eg x)) ?_;refine Xq Ar ?_;refine Xq (Ag (Eg y)) ?_;refine ⟨_,rfl,?_⟩
  refine Wa<|Wa<|Y0<|Ac<|Y1<|Wm<|Wm ?_;refine Wq Am ?_;apply Y0;refine Ct ?_;refine Ac<|Y1<|Wm<|Wm ?_;refine Wq Am ?_;apply Y0;refine Ct ?_;refine Y1<|Wa<|Y0 ?_;apply As;apply AJ;apply AJ
  exact Bd (Rets.of1 (ResV.tmp rfl rfl) (Bc (by rw [Int.sign_eq_neg_one_of_neg (show x - y<0 by omega)])))
 ·refine Ab Tryz.func122 fun s0 => ?_
  rw [Tryz.ntmps122]
  apply Y1;refine Bx ?_;refine Bx ?_;refine Wa<|Y0<|Ac ?_
  refine Dr [[],[(7,0)],[],[(9,2)]] [[],[0],[],[0,1,2]] ?_
  refine Xq Ar ?_;refine Xq (Ag (Eg x)) ?_;refine Xq Ar ?_;refine Xq (Ag (Eg y)) ?_;refine ⟨_,rfl,?_⟩
  refine Wa<|Wa<|Y0<|Ac<|Y1<|Wm<|Wm ?_;refine Wq Am ?_;apply Y0;refine Ct ?_;refine Ac<|Y1<|Wm<|Wm ?_;refine Wq Ak ?_;apply Y0;refine Cf ?_;refine Ys<|Y1<|Wa<|Y0 ?_;apply As;apply AJ
  exact Bd (Rets.of1 (ResV.tmp rfl rfl) (Bc (by rw [Int.sign_eq_one_of_pos (show 0<x - y by omega)])))
 ·refine Ab Tryz.func122 fun s0 => ?_
  rw [Tryz.ntmps122]
  apply Y1;refine Bx ?_;refine Bx ?_;refine Wa<|Y0<|Ac ?_
  refine Dr [[],[(7,0)],[],[(9,2)]] [[],[0],[],[0,1,2]] ?_
  refine Xq Ar ?_;refine Xq (Ag (Eg x)) ?_;refine Xq Ar ?_;refine Xq (Ag (Eg y)) ?_;refine ⟨_,rfl,?_⟩
  refine Wa<|Wa<|Y0<|Ac<|Y1<|Wm<|Wm ?_;refine Wq Ak ?_;apply Y0;refine Cf ?_;refine Ys<|Ac<|Y1<|Wm ?_;refine Wq Am ?_;apply Y0;refine Ct ?_;apply Y1;refine Wq Ao ?_;refine Wq AB ?_;refine Wq Ao ?_;refine Wq AB ?_;refine Wq (Ag (Kp y.natAbs x.natAbs)) ?_;refine Wa<|Y0 ?_;apply As;apply AJ
  exact Bd (Rets.of1 (ResV.tmp rfl rfl) (Bc (by rw [Ie];congr 3;omega)))
 ·refine Ab Tryz.func122 fun s0 => ?_
  rw [Tryz.ntmps122]
  apply Y1;refine Bx ?_;refine Bx ?_;refine Wa<|Y0<|Ac ?_
  refine Dr [[],[(7,0)],[],[(9,2)]] [[],[0],[],[0,1,2]] ?_
  refine Xq Ar ?_;refine Xq (Ag (Eg x)) ?_;refine Xq Ar ?_;refine Xq (Ag (Eg y)) ?_;refine ⟨_,rfl,?_⟩
  refine Wa<|Wa<|Y0<|Ac<|Y1<|Wm<|Wm ?_;refine Wq Ak ?_;apply Y0;refine Cf ?_;refine Ys<|Ac<|Y1<|Wm ?_;refine Wq Ak ?_;apply Y0;refine Cf ?_;refine Ys<|Y1 ?_;refine Wq Ao ?_;refine Wq AB ?_;refine Wq Ao ?_;refine Wq AB ?_;refine Wq (Ag (Kp x.natAbs y.natAbs)) ?_;refine Wa<|Y0 ?_;apply As
  exact Bd (Rets.of1 (ResV.tmp rfl rfl) (Bc (by rw [Ie];congr 3;omega)))
theorem Kg (x y:Int) (hx:(Ah x.natAbs).length≤1000000000) (hy:(Ah y.natAbs).length≤1000000000):Abs Tryz.prog 115 [slD 52 2 [DF x,DF y]] (BF (DF (x*y))):=by
 have c1:=Gv x
 have c2:=Gv y
 have c0:=Gv 1
 rw [decide_eq_true rfl] at c0
 refine Ab Tryz.func115 fun s0=>?_
 rw [Tryz.ntmps115]
 apply Y1;refine Al ?_;refine Y0<|Y1 ?_;refine Wq (Ag (A0e 1 (by omega) (by omega))) ?_;refine Al ?_;refine Sf ?_;refine Y0<|Ac<|Y1<|Wm ?_;refine Wq A0A ?_;refine Wm<|Y0<|AWp.block ?_
 refine Ba (fun mz σ=>∃ (r:Int) (k:Nat),(mz = 2∧r = 1∧k = 0∨mz = 1∧r = x∧k = 1∨mz = 0∧r = x*y∧k = 2)∧σ = ⟨[(2,.ptr 0 0),(3,.ptr 1 0),(7,.d (slD 52 2 [DF x,DF y])),(8,.d (ex (.int .i64 2))),(9,.d (ex (.int .i64 (k:Nat))))],[.var 52 ([ex (.bool false),ex (.slice none 0 0)].map .d),.var 52 ((DF r).map .d)]⟩) ?le ⟨1,0,.inl ⟨rfl,rfl,rfl⟩,rfl⟩ ?round
 case le=>exact Aq (by exact Yp<|Yp<|Yd<|Yd<|Yd<|FrLe.nil) (by exact Yv<|Yv<|HpLe.nil)
 case round =>
  rintro mz _ ⟨r,k,⟨rfl,rfl,rfl⟩ | ⟨rfl,rfl,rfl⟩ | ⟨rfl,rfl,rfl⟩,rfl⟩
  ·by_cases h1:x = 1
   ·rw [decide_eq_true h1] at c1
    apply Y1;refine Wq Am ?_;refine Y0<|Ac ?_;refine Ct ?_;refine Ys<|Ac<|AWp.block<|Y1 ?_;refine Wq GB ?_;refine Wq AA ?_;refine Al ?_;refine Sf ?_;refine Y0<|AWp.block<|Y1 ?_;refine Wq Ar ?_;refine Wq (Ag (c1)) ?_;refine Wa<|Y0 ?_;refine Ct ?_;apply BA;apply Ai;apply Ai;refine Yn<|AWp.region ?_;refine Wq AR ?_;refine Wm ?_;apply AWl.nil
    refine ALoop.next 1 (by omega) ⟨x,1,.inr (.inl ⟨rfl,rfl,rfl⟩),rfl⟩ ?_
    exact Aq (by exact Yp<|Yp<|Yd<|Yd<|Yd<|FrLe.nil) (by apply Yv;(refine HpLe.cons (GD (by rw [h1] <;> rfl)) ?_);exact HpLe.nil)
   ·rw [decide_eq_false h1] at c1
    apply Y1;refine Wq Am ?_;refine Y0<|Ac ?_;refine Ct ?_;refine Ys<|Ac<|AWp.block<|Y1 ?_;refine Wq GB ?_;refine Wq AA ?_;refine Al ?_;refine Sf ?_;refine Y0<|AWp.block<|Y1 ?_;refine Wq Ar ?_;refine Wq (Ag (c1)) ?_;refine Wa<|Y0 ?_;refine Cf ?_;apply Y1;refine Wq Ar ?_;refine Wq (Ag (c0)) ?_;refine Wa<|Y0 ?_;refine Ct ?_;apply AWp.region;refine Wq Ar ?_;refine Sf ?_;apply AWl.nil;apply Ai;apply Ai;refine Yn<|AWp.region ?_;refine Wq AR ?_;refine Wm ?_;apply AWl.nil
    refine ALoop.next 1 (by omega) ⟨x,1,.inr (.inl ⟨rfl,rfl,rfl⟩),rfl⟩ ?_
    exact Aq (by exact Yp<|Yp<|Yd<|Yd<|Yd<|FrLe.nil) (by exact Yv<|Yv<|HpLe.nil)
  ·by_cases h2:y = 1
   ·rw [decide_eq_true h2] at c2
    apply Y1;refine Wq Am ?_;refine Y0<|Ac ?_;refine Ct ?_;refine Ys<|Ac<|AWp.block<|Y1 ?_;refine Wq GB ?_;refine Wq AA ?_;refine Al ?_;refine Sf ?_;refine Y0<|AWp.block<|Y1 ?_;refine Wq Ar ?_;refine Wq (Ag (c2)) ?_;refine Wa<|Y0 ?_;refine Ct ?_;apply BA;apply Ai;apply Ai;refine Yn<|AWp.region ?_;refine Wq AR ?_;refine Wm ?_;apply AWl.nil
    refine ALoop.next 0 (by omega) ⟨r*y,2,.inr (.inr ⟨rfl,rfl,rfl⟩),rfl⟩ ?_
    exact Aq (by exact Yp<|Yp<|Yd<|Yd<|Yd<|FrLe.nil) (by apply Yv;(refine HpLe.cons (GD (by rw [h2,Int.mul_one] <;> rfl)) ?_);exact HpLe.nil)
   ·rw [decide_eq_false h2] at c2
    by_cases h1:r = 1
    ·rw [decide_eq_true h1] at c1
     apply Y1;refine Wq Am ?_;refine Y0<|Ac ?_;refine Ct ?_;refine Ys<|Ac<|AWp.block<|Y1 ?_;refine Wq GB ?_;refine Wq AA ?_;refine Al ?_;refine Sf ?_;refine Y0<|AWp.block<|Y1 ?_;refine Wq Ar ?_;refine Wq (Ag (c2)) ?_;refine Wa<|Y0 ?_;refine Cf ?_;apply Y1;refine Wq Ar ?_;refine Wq (Ag (c1)) ?_;refine Wa<|Y0 ?_;refine Ct ?_;apply AWp.region;refine Wq Ar ?_;refine Sf ?_;apply AWl.nil;apply Ai;apply Ai;refine Yn<|AWp.region ?_;refine Wq AR ?_;refine Wm ?_;apply AWl.nil
     refine ALoop.next 0 (by omega) ⟨r*y,2,.inr (.inr ⟨rfl,rfl,rfl⟩),rfl⟩ ?_
     exact Aq (by exact Yp<|Yp<|Yd<|Yd<|Yd<|FrLe.nil) (by apply Yv;(refine HpLe.cons (GD (by rw [h1,Int.one_mul] <;> rfl)) ?_);exact HpLe.nil)
    ·rw [decide_eq_false h1] at c1
     apply Y1;refine Wq Am ?_;refine Y0<|Ac ?_;refine Ct ?_;refine Ys<|Ac<|AWp.block<|Y1 ?_;refine Wq GB ?_;refine Wq AA ?_;refine Al ?_;refine Sf ?_;refine Y0<|AWp.block<|Y1 ?_;refine Wq Ar ?_;refine Wq (Ag (c2)) ?_;refine Wa<|Y0 ?_;refine Cf ?_;apply Y1;refine Wq Ar ?_;refine Wq (Ag (c1)) ?_;refine Wa<|Y0 ?_;refine Cf ?_;apply AWp.region;refine Wq Ar ?_;refine Wq Ar ?_;refine Wq (Ag (YU r y (by omega) (by omega))) ?_;refine Sf ?_;apply AWl.nil;apply Ai;apply Ai;refine Yn<|AWp.region ?_;refine Wq AR ?_;refine Wm ?_;apply AWl.nil
     refine ALoop.next 0 (by omega) ⟨r*y,2,.inr (.inr ⟨rfl,rfl,rfl⟩),rfl⟩ ?_
     exact Aq (by exact Yp<|Yp<|Yd<|Yd<|Yd<|FrLe.nil) (by exact Yv<|Yv<|HpLe.nil)
  ·apply Y1;refine Wq Ak ?_;refine Y0<|Ac ?_;refine Cf ?_;apply AZ;apply AE;apply AM;apply AF;refine Yn<|Y1 ?_;refine Wq Ar ?_;refine Sf ?_;apply Y0;apply As
   exact Bd (Rets.of1 (ResV.cell rfl rfl (Ad rfl) rfl rfl rfl) (D.le.refl _))
def Hj (p q:Rat):Int:=(p.num*(q.den:Int) - q.num*(p.den:Int)).sign
theorem Gm (p q:Rat) (hp:RSz p 1000000000) (hq:RSz q 1000000000):Abs Tryz.prog 93 [BF (BH p),BF (BH q)] (ex (.int .i64 (Hj p q))):=by
 have hdp:=p.den_pos
 have hdq:=q.den_pos
 have hx:p.num.sign = -1∧p.num<0∨p.num.sign = 0∧p.num = 0∨p.num.sign = 1∧0<p.num:=by
  rcases Int.lt_trichotomy p.num 0 with h | h | h
  ·exact .inl ⟨Int.sign_eq_neg_one_of_neg h,h⟩
  ·exact .inr (.inl ⟨by rw [h];rfl,h⟩)
  ·exact .inr (.inr ⟨Int.sign_eq_one_of_pos h,h⟩)
 have hy:q.num.sign = -1∧q.num<0∨q.num.sign = 0∧q.num = 0∨q.num.sign = 1∧0<q.num:=by
  rcases Int.lt_trichotomy q.num 0 with h | h | h
  ·exact .inl ⟨Int.sign_eq_neg_one_of_neg h,h⟩
  ·exact .inr (.inl ⟨by rw [h];rfl,h⟩)
  ·exact .inr (.inr ⟨Int.sign_eq_one_of_pos h,h⟩)
 rcases (show p.num.sign<q.num.sign∨q.num.sign<p.num.sign∨p.num.sign = q.num.sign by omega) with h | h | h
 ·have hr:Hj p q = -1:=by
   refine Int.sign_eq_neg_one_of_neg ?_
   rcases (show (p.num<0∧0≤q.num)∨(p.num≤0∧0<q.num) by omega) with ⟨h1,h2⟩ | ⟨h1,h2⟩
   ·have h3 : p.num * (q.den : Int) < 0 := Int.mul_neg_of_neg_of_pos h1 (by omega)
    have h4:0≤q.num*(p.den:Int):=Int.mul_nonneg h2 (by omega)
    omega
   ·have h3 : p.num * (q.den : Int) ≤ 0 := Int.mul_nonpos_of_nonpos_of_nonneg h1 (by omega)
    have h4:0<q.num*(p.den:Int):=Int.mul_pos h2 (by omega)
    omega
  rw [hr]
  refine Ab Tryz.func93 fun s0=>?_
  rw [Tryz.ntmps93]
  apply Y1;refine Bx ?_;refine Bx ?_;refine Wa<|Y0<|Ac<|Ac ?_
  refine Dr [[],[(7,0)],[],[(9,2)]] [[],[0],[],[0,1,2]] ?_
  refine Xq Ar ?_;refine Xq (Ag (BR p)) ?_;refine Xq Ar ?_;refine Xq (Ag (BR q)) ?_;refine ⟨_,rfl,?_⟩
  refine Wa<|Wa<|Y0<|Y1<|Wm<|Wm ?_;refine Wq Am ?_;apply Y0;refine Ct ?_;refine Ac<|Y1<|Wm<|Wm ?_;refine Wq Am ?_;apply Y0;refine Ct ?_;refine Y1<|Wa<|Y0 ?_;apply As;apply AJ;apply AJ
  exact Yf
 ·have hr:Hj p q = 1:=by
   refine Int.sign_eq_one_of_pos ?_
   rcases (show (q.num<0∧0≤p.num)∨(q.num≤0∧0<p.num) by omega) with ⟨h1,h2⟩ | ⟨h1,h2⟩
   ·have h3 : q.num * (p.den : Int) < 0 := Int.mul_neg_of_neg_of_pos h1 (by omega)
    have h4:0≤p.num*(q.den:Int):=Int.mul_nonneg h2 (by omega)
    omega
   ·have h3 : q.num * (p.den : Int) ≤ 0 := Int.mul_nonpos_of_nonpos_of_nonneg h1 (by omega)
    have h4:0<p.num*(q.den:Int):=Int.mul_pos h2 (by omega)
    omega
  rw [hr]
  refine Ab Tryz.func93 fun s0=>?_
  rw [Tryz.ntmps93]
  apply Y1;refine Bx ?_;refine Bx ?_;refine Wa<|Y0<|Ac<|Ac ?_
  refine Dr [[],[(7,0)],[],[(9,2)]] [[],[0],[],[0,1,2]] ?_
  refine Xq Ar ?_;refine Xq (Ag (BR p)) ?_;refine Xq Ar ?_;refine Xq (Ag (BR q)) ?_;refine ⟨_,rfl,?_⟩
  refine Wa<|Wa<|Y0<|Y1<|Wm<|Wm ?_;refine Wq Am ?_;apply Y0;refine Ct ?_;refine Ac<|Y1<|Wm<|Wm ?_;refine Wq Ak ?_;apply Y0;refine Cf ?_;refine Ys<|Y1<|Wa<|Y0 ?_;apply As;apply AJ
  exact Yf
 ·refine Ab Tryz.func93 fun s0 => ?_
  rw [Tryz.ntmps93]
  apply Y1;refine Bx ?_;refine Bx ?_;refine Wa<|Y0<|Ac<|Ac ?_
  refine Dr [[],[(7,0)],[],[(9,2)]] [[],[0],[],[0,1,2]] ?_
  refine Xq Ar ?_;refine Xq (Ag (BR p)) ?_;refine Xq Ar ?_;refine Xq (Ag (BR q)) ?_;refine ⟨_,rfl,?_⟩
  refine Wa<|Wa<|Y0<|Y1<|Wm<|Wm ?_;refine Wq Ak ?_;apply Y0;refine Cf ?_;refine Ys<|Ac ?_
  refine Dr [[],[(17,0)],[],[(19,2)],[(18,1),(20,3)],[(21,4)],[],[(23,6)],[],[(25,8)],[(24,7),(26,9)],[(27,10)],[(22,5),(28,11)]] [[],[0],[],[2],[0,1,2,3],[0,1,2,3,4],[],[6],[],[8],[6,7,8,9],[0,1,2,3,4,5,6,7,8,9,10],[0,1,2,3,4,5,6,7,8,9,10,11]] ?_
  refine Xq Ao ?_;refine Xq Ar ?_;refine Xq Ao ?_;refine Xq Ar ?_;(refine Hq rfl ?_;refine CE (Ad rfl) (Ad rfl) rfl rfl rfl rfl rfl ?_;(repeat ((first | refine ⟨_,AK (ah rfl),?_⟩ | refine ⟨_,Po rfl,?_⟩);refine ⟨_,rfl,?_⟩));refine ⟨_,rfl,?_⟩;refine ⟨_,rfl,?_⟩);refine Xq (Ag (Kg p.num q.den hp.1 hq.2)) ?_;refine Xq Ao ?_;refine Xq Ar ?_;refine Xq Ao ?_;refine Xq Ar ?_;(refine Hq rfl ?_;refine CE (Ad rfl) (Ad rfl) rfl rfl rfl rfl rfl ?_;(repeat ((first | refine ⟨_,AK (ah rfl),?_⟩ | refine ⟨_,Po rfl,?_⟩);refine ⟨_,rfl,?_⟩));refine ⟨_,rfl,?_⟩;refine ⟨_,rfl,?_⟩);refine Xq (Ag (Kg q.num p.den hq.1 hp.2)) ?_;refine Xq (Ag (Xk (p.num*q.den) (q.num*p.den))) ?_;refine ⟨_,rfl,?_⟩
  refine Wa<|Y0 ?_;apply As
  exact Yf
theorem Wu {g : Nat} (h:0<g):(((g:Int) - 1).sign == 0) = decide (g = 1):=by
 by_cases h1:g = 1
 ·subst h1;rfl
 ·rw [decide_eq_false h1,Int.sign_eq_one_of_pos (by omega)];rfl
open Classical in
theorem Qw (b : Bool) (l:List Nat) (b':Bool) (l':List Nat) (hs:Bg l) (hs':Bg l') (hn:l.length≤1000000000) (hn':l'.length≤1000000000):Abs Tryz.prog 21 [BF (YM b l b' l')] (ex (.bool (decide (TG b l b' l')))):=by
 have c1:=Ks b l hn
 have c2:=Ks b' l' hn'
 cases h1:EU b l with
 | false =>
  have hq:¬ TG b l b' l':=fun h=>by rw [(Pj h).1] at h1;cases h1
  rw [h1] at c1
  rw [decide_eq_false hq]
  refine Ab Tryz.func21 fun s0=>?_
  rw [Tryz.ntmps21]
  apply Y1;refine Bx ?_;refine Wa<|Y0<|Ac<|Y1 ?_;refine Wq Ao ?_;refine Wq Ar ?_;refine Wq (Ag (c1)) ?_;refine Wq Br ?_;refine Wm ?_;refine Ws ?_;refine Ws ?_;refine Ws ?_;refine Ws ?_;refine Wq AP ?_;refine Wm ?_;refine Ws ?_;refine Ws ?_;refine Ws ?_;refine Ws ?_;refine Wq AP ?_;apply Y0;refine Ct ?_;refine Y1<|Wa<|Y0 ?_;apply As;apply AJ
  exact Yf
 | true =>
  rw [h1] at c1
  cases h2:EU b' l' with
  | false =>
   have hq:¬ TG b l b' l':=fun h=>by rw [(Pj h).2] at h2;cases h2
   rw [h2] at c2
   rw [decide_eq_false hq]
   refine Ab Tryz.func21 fun s0=>?_
   rw [Tryz.ntmps21]
   apply Y1;refine Bx ?_;refine Wa<|Y0<|Ac<|Y1 ?_;refine Wq Ao ?_;refine Wq Ar ?_;refine Wq (Ag (c1)) ?_;refine Wq Br ?_;refine Wm ?_;refine Wg Ao ?_;refine Wg Ar ?_;refine Wg (Ag (c2)) ?_;refine Wg Br ?_;refine Wq AD ?_;refine Wm ?_;refine Ws ?_;refine Ws ?_;refine Ws ?_;refine Ws ?_;refine Wq AP ?_;apply Y0;refine Ct ?_;refine Y1<|Wa<|Y0 ?_;apply As;apply AJ
   exact Yf
  | true =>
   rw [h2] at c2
   obtain ⟨x,rfl,rfl⟩:=Id hs h1
   obtain ⟨y,rfl,rfl⟩:=Id hs' h2
   by_cases hy:0<y
   ·have hsg:y.sign = 1:=Int.sign_eq_one_of_pos hy
    have hg:decide (TG (decide (x<0)) (Ah x.natAbs) (decide (y<0)) (Ah y.natAbs)) = ((((Nat.gcd x.natAbs y.natAbs:Nat):Int) - 1).sign == 0):=by
     have hpos:0<Nat.gcd x.natAbs y.natAbs:=Nat.gcd_pos_of_pos_right _ (by omega)
     rw [Wu hpos]
     exact decide_eq_decide.2 ((Jv x y).trans ⟨fun h=>h.2,fun h=>⟨hy,h⟩⟩)
    rw [hg]
    refine Ab Tryz.func21 fun s0=>?_
    rw [Tryz.ntmps21]
    apply Y1;refine Bx ?_;refine Wa<|Y0<|Ac<|Y1 ?_;refine Wq Ao ?_;refine Wq Ar ?_;refine Wq (Ag (c1)) ?_;refine Wq Br ?_;refine Wm ?_;refine Wg Ao ?_;refine Wg Ar ?_;refine Wg (Ag (c2)) ?_;refine Wg Br ?_;refine Wq AD ?_;refine Wm ?_;refine Wg Ao ?_;refine Wg Ar ?_;refine Wg (Ag (NS y)) ?_;refine Wg Ak ?_;refine Wq AD ?_;apply Y0;refine Cf ?_;refine Ys<|Y1 ?_;refine Wq Ao ?_;refine Wq Ar ?_;refine Wq Ao ?_;refine Wq Ar ?_;refine Wq (Ag (XI x y (by omega) (by omega))) ?_;refine Wq (Ag (Cc 1 (by omega) (by omega))) ?_;refine Wq (Ag (Vs (Nat.gcd x.natAbs y.natAbs:Nat) 1)) ?_;refine Wq Mv ?_;refine Wa<|Y0 ?_;apply As
    exact Yf
   ·have hsg : y.sign ≤ 0 := Int.sign_nonpos_iff.2 (by omega)
    rw [decide_eq_false fun h=>hy ((Jv x y).1 h).1]
    refine Ab Tryz.func21 fun s0=>?_
    rw [Tryz.ntmps21]
    apply Y1;refine Bx ?_;refine Wa<|Y0<|Ac<|Y1 ?_;refine Wq Ao ?_;refine Wq Ar ?_;refine Wq (Ag (c1)) ?_;refine Wq Br ?_;refine Wm ?_;refine Wg Ao ?_;refine Wg Ar ?_;refine Wg (Ag (c2)) ?_;refine Wg Br ?_;refine Wq AD ?_;refine Wm ?_;refine Wg Ao ?_;refine Wg Ar ?_;refine Wg (Ag (NS y)) ?_;refine Wg Am ?_;refine Wq AD ?_;apply Y0;refine Ct ?_;refine Y1<|Wa<|Y0 ?_;apply As;apply AJ
    exact Yf
structure RTm where
 b:Bool
 l:List Nat
 b':Bool
 l':List Nat
 m:Nat→Int
instance : Inhabited RTm:=⟨⟨false,[],false,[],fun _=>0⟩⟩
def rtC (r : RTm):List D:=YM r.b r.l r.b' r.l' ++ Cd r.m
def rtD (L : List RTm):D:=slD 72 12 (L.map rtC)
def DD (L : List RTm) (k:Nat):RTm:=L.getD k default
def tOk (r : RTm):Prop:=TG r.b r.l r.b' r.l'∧r.l ≠ []∧In8 r.m 0 65535
def IN (L : List RTm):Prop:=∀ k,k<L.length→tOk (DD L k)∧(0<k→0<Fa (DD L (k - 1)).m (DD L k).m)
def A1a (L : List RTm):Prop:=∀ r∈L,Bg r.l∧Bg r.l'∧r.l.length≤1000000000∧r.l'.length≤1000000000
theorem Wz {L : List RTm} {k:Nat} (h:k<L.length):DD L k∈L:=by
 unfold DD
 rw [List.getD_eq_getElem?_getD,List.getElem?_eq_getElem h]
 exact List.getElem_mem h
theorem Ff (a : Nat→Int) (h:In8 a 0 65535):Abs Tryz.prog 69 [BF (Cd a)] (ex (.bool true)):=by
 refine Ab Tryz.func69 fun s0=>?_
 rw [Tryz.ntmps69]
 apply Y1;refine Bx ?_;refine Wa<|Y0<|Ac<|Y1<|Wa<|Y0<|AWp.block ?_
 refine Ba (fun mz σ=>∃ k,k≤8∧mz = 8 - k∧σ = ⟨[(1,.ptr 0 0),(2,.d (ex (.bool false))),(3,.d (ex (.int .i64 (k:Nat))))],[.var 70 ((Cd a).map .d)]⟩) ?le ⟨0,by omega,rfl,rfl⟩ ?round
 case le=>exact Aq (by exact Yp<|Yd<|Yd<|FrLe.nil) (by exact Yv<|HpLe.nil)
 case round =>
  rintro mz _ ⟨k,hk,rfl,rfl⟩
  by_cases hlt:k<8
  ·have hk':=h k hlt
   refine Ac<|Y1<|Wm ?_;refine Wq Am ?_;apply Y0;refine Ct ?_;refine Ys<|Ac<|AWp.block<|Y1<|Wm ?_;refine Wq ER ?_;refine Wq ED ?_;refine Wq Ak ?_;refine Wm ?_;refine Wg Af ?_;refine Wg ER ?_;refine Wg ED ?_;refine Wg Ak ?_;refine Wq AD ?_;apply Y0;refine Cf ?_;apply BA;apply Ai;refine Yn<|AWp.region<|Wm ?_;refine Wq AR ?_;refine Wa ?_;apply AWl.nil
   refine ALoop.next (8 - (k+1)) (by omega) ⟨k+1,by omega,rfl,rfl⟩ ?_
   exact Aq (by exact Yp<|Yd<|Yd<|FrLe.nil) (by exact Yv<|HpLe.nil)
  ·obtain rfl : k = 8 := by omega
   refine Ac<|Y1<|Wm ?_;refine Wq Ak ?_;apply Y0;refine Cf ?_;apply AZ;apply AE;apply AM;apply AF;refine Yn<|Y1<|Wa<|Y0 ?_;apply As
   exact Yf
theorem OR (a : Nat→Int) (h:¬ In8 a 0 65535):Abs Tryz.prog 69 [BF (Cd a)] (ex (.bool false)):=by
 refine Ab Tryz.func69 fun s0=>?_
 rw [Tryz.ntmps69]
 apply Y1;refine Bx ?_;refine Wa<|Y0<|Ac<|Y1<|Wa<|Y0<|AWp.block ?_
 refine Ba (fun mz σ=>∃ k,k≤8∧mz = 8 - k∧(∀ j,j<k→0≤a j∧a j≤65535)∧σ = ⟨[(1,.ptr 0 0),(2,.d (ex (.bool false))),(3,.d (ex (.int .i64 (k:Nat))))],[.var 70 ((Cd a).map .d)]⟩) ?le ⟨0,by omega,rfl,fun j hj=>absurd hj (Nat.not_lt_zero j),rfl⟩ ?round
 case le=>exact Aq (by exact Yp<|Yd<|Yd<|FrLe.nil) (by exact Yv<|HpLe.nil)
 case round =>
  rintro mz _ ⟨k,hk,rfl,hall,rfl⟩
  by_cases hlt:k<8
  ·rcases (show a k < 0 ∨ (0 ≤ a k ∧ 65535 < a k) ∨ (0 ≤ a k ∧ a k ≤ 65535) by omega) with h1 | ⟨h1, h2⟩ | ⟨h1, h2⟩
   ·refine Ac<|Y1<|Wm ?_;refine Wq Am ?_;apply Y0;refine Ct ?_;refine Ys<|Ac<|AWp.block<|Y1<|Wm ?_;refine Wq ER ?_;refine Wq ED ?_;refine Wq Am ?_;refine Wm ?_;refine Ws ?_;refine Ws ?_;refine Ws ?_;refine Ws ?_;refine Wq AP ?_;apply Y0;refine Ct ?_;refine Y1<|Wa<|Y0 ?_;apply As;apply Bf;apply AJ;apply CK;apply Bf;apply AJ
    exact Yf
   ·refine Ac<|Y1<|Wm ?_;refine Wq Am ?_;apply Y0;refine Ct ?_;refine Ys<|Ac<|AWp.block<|Y1<|Wm ?_;refine Wq ER ?_;refine Wq ED ?_;refine Wq Ak ?_;refine Wm ?_;refine Wg Af ?_;refine Wg ER ?_;refine Wg ED ?_;refine Wg Am ?_;refine Wq AD ?_;apply Y0;refine Ct ?_;refine Y1<|Wa<|Y0 ?_;apply As;apply Bf;apply AJ;apply CK;apply Bf;apply AJ
    exact Yf
   ·refine Ac<|Y1<|Wm ?_;refine Wq Am ?_;apply Y0;refine Ct ?_;refine Ys<|Ac<|AWp.block<|Y1<|Wm ?_;refine Wq ER ?_;refine Wq ED ?_;refine Wq Ak ?_;refine Wm ?_;refine Wg Af ?_;refine Wg ER ?_;refine Wg ED ?_;refine Wg Ak ?_;refine Wq AD ?_;apply Y0;refine Cf ?_;apply BA;apply Ai;refine Yn<|AWp.region<|Wm ?_;refine Wq AR ?_;refine Wa ?_;apply AWl.nil
    refine ALoop.next (8 - (k+1)) (by omega) ⟨k+1,by omega,rfl,fun j hj=>?_,rfl⟩ ?_
    ·rcases Nat.lt_succ_iff_lt_or_eq.1 hj with h3 | rfl
     ·exact hall j h3
     ·exact ⟨h1,h2⟩
    ·exact Aq (by exact Yp<|Yd<|Yd<|FrLe.nil) (by exact Yv<|HpLe.nil)
  ·obtain rfl : k = 8 := by omega
   exact absurd hall h
open Classical in
theorem QL (L : List RTm) (hz:A1a L) (hn:L.length≤1000000):Abs Tryz.prog 22 [rtD L] (ex (.bool (decide (IN L)))):=by
 refine Ab Tryz.func22 fun s0=>?_
 rw [Tryz.ntmps22]
 refine Y1<|Wa<|Y0<|Ac<|Y1<|Wa<|Y0<|AWp.block ?_
 refine Ba (fun mz σ=>∃ k,k≤L.length∧mz = L.length - k∧(∀ j,j<k→tOk (DD L j)∧(0<j→0<Fa (DD L (j - 1)).m (DD L j).m))∧σ = ⟨[(0,.d (rtD L)),(3,.d (ex (.int .i64 (k:Nat))))],[]⟩) ?le ⟨0,by omega,rfl,fun j hj=>absurd hj (Nat.not_lt_zero j),rfl⟩ ?round
 case le=>exact Aq (by exact Yd<|Yd<|FrLe.nil) (by exact HpLe.nil)
 case round =>
  rintro mz _ ⟨k,hk,rfl,hall,rfl⟩
  by_cases hlt:k<L.length
  ·obtain ⟨z1,z2,z3,z4⟩:=hz _ (Wz hlt)
   have c1:=Qw (DD L k).b (DD L k).l (DD L k).b' (DD L k).l' z1 z2 z3 z4
   by_cases hq:TG (DD L k).b (DD L k).l (DD L k).b' (DD L k).l'
   ·rw [decide_eq_true hq] at c1
    obtain ⟨q,q1,q2,q3,q4⟩:=id hq
    have c2:=Ex q
    have hcc:BH q = YM (DD L k).b (DD L k).l (DD L k).b' (DD L k).l':=by rw [q1,q2,q3,q4];rfl
    rw [hcc] at c2
    by_cases hz0:q = 0
    ·have hs:=CT.2 hz0
     have hno:¬ IN L:=fun h=>(h k hlt).1.2.1 (by rw [q2,hz0];exact Bk)
     rw [decide_eq_false hno]
     refine Ac<|Y1<|Wm<|Wm ?_;refine Wq AH ?_;refine Wq Am ?_;apply Y0;refine Ct ?_;refine Ys<|Ac<|AWp.block<|Ac<|Y1<|Wm<|Wm ?_;refine Wq Az ?_;refine Wq Bb ?_;refine Wq CY ?_;refine Wq (Ag (c1)) ?_;refine Wq Br ?_;refine Wm ?_;refine Wg Af ?_;refine Wg Af ?_;refine Wg Az ?_;refine Wg Bb ?_;refine Wg CY ?_;refine Wg (Ag (c2)) ?_;refine Wg Am ?_;refine Wq AD ?_;refine Wm ?_;refine Ws ?_;refine Ws ?_;refine Ws ?_;refine Ws ?_;refine Ws ?_;refine Ws ?_;refine Ws ?_;refine Wq AP ?_;apply Y0;refine Ct ?_;refine Y1<|Wa<|Y0 ?_;apply As;apply AJ;apply Bf;apply AJ;apply CK;apply Bf;apply AJ
     exact Yf
    ·have hs:q.num.sign ≠ 0:=fun e=>hz0 (CT.1 e)
     by_cases hm:In8 (DD L k).m 0 65535
     ·have htk : tOk (DD L k) := ⟨hq, fun e => by rw [q2] at e; have := AN.1 (by rw [e]; rfl); exact Tb hz0 (by omega), hm⟩
      rcases Nat.eq_zero_or_pos k with h0 | h0
      ·subst h0
       refine Ac<|Y1<|Wm<|Wm ?_;refine Wq AH ?_;refine Wq Am ?_;apply Y0;refine Ct ?_;refine Ys<|Ac<|AWp.block<|Ac<|Y1<|Wm<|Wm ?_;refine Wq Az ?_;refine Wq Bb ?_;refine Wq CY ?_;refine Wq (Ag (c1)) ?_;refine Wq Br ?_;refine Wm ?_;refine Wg Af ?_;refine Wg Af ?_;refine Wg Az ?_;refine Wg Bb ?_;refine Wg CY ?_;refine Wg (Ag (c2)) ?_;refine Wg Ak ?_;refine Wq AD ?_;refine Wm ?_;refine Wg Af ?_;refine Wg Af ?_;refine Wg Az ?_;refine Wg Bb ?_;refine Wg AA ?_;refine Wg (Ag (Ff (DD L 0).m hm)) ?_;refine Wg Br ?_;refine Wq AD ?_;apply Y0;refine Cf ?_;refine Ys<|Ac ?_
       refine Dr [[],[(35,0)],[(36,1)],[],[],[(39,4)],[(38,3),(40,5)],[(41,6)],[(42,7)],[],[],[(44,9),(45,10)],[(46,11)],[(47,12)],[(43,8),(48,13)],[(49,14)],[(37,2),(50,15)]] [[],[0],[0,1],[0,1,2],[0,1,2],[0,1,2,4],[0,1,2,3,4,5],[0,1,2,3,4,5,6],[0,1,2,3,4,5,6,7],[0,1,2],[0,1,2],[0,1,2,9,10],[0,1,2,9,10,11],[0,1,2,9,10,11,12],[0,1,2,3,4,5,6,7,8,9,10,11,12,13],[0,1,2,3,4,5,6,7,8,9,10,11,12,13,14],[0,1,2,3,4,5,6,7,8,9,10,11,12,13,14,15]] ?_
       refine Xq Af ?_;refine Xq Ak ?_;refine Xq Af ?_;refine Xs ?_;refine Xs ?_;refine Xs ?_;refine Xs ?_;refine Xs ?_;refine Xs ?_;refine Xs ?_;refine Xs ?_;refine Xs ?_;refine Xs ?_;refine Xs ?_;refine Xs ?_;refine Xs ?_;refine Xq AD ?_;refine ⟨_,rfl,?_⟩
       apply Y0;refine Cf ?_;apply BA;apply Ai;refine Yn<|AWp.region<|Wm ?_;refine Wq AR ?_;refine Wa ?_;apply AWl.nil
       refine ALoop.next (L.length - 1) (by omega) ⟨1,by omega,rfl,fun j hj=>by obtain rfl:j = 0:=(by omega);exact ⟨htk,fun h=>absurd h (Nat.lt_irrefl _)⟩,rfl⟩ ?_
       exact Aq (by exact Yd<|Yd<|FrLe.nil) (by exact HpLe.nil)
      ·by_cases hc:0<Fa (DD L (k - 1)).m (DD L k).m
       ·refine Ac<|Y1<|Wm<|Wm ?_;refine Wq AH ?_;refine Wq Am ?_;apply Y0;refine Ct ?_;refine Ys<|Ac<|AWp.block<|Ac<|Y1<|Wm<|Wm ?_;refine Wq Az ?_;refine Wq Bb ?_;refine Wq CY ?_;refine Wq (Ag (c1)) ?_;refine Wq Br ?_;refine Wm ?_;refine Wg Af ?_;refine Wg Af ?_;refine Wg Az ?_;refine Wg Bb ?_;refine Wg CY ?_;refine Wg (Ag (c2)) ?_;refine Wg Ak ?_;refine Wq AD ?_;refine Wm ?_;refine Wg Af ?_;refine Wg Af ?_;refine Wg Az ?_;refine Wg Bb ?_;refine Wg AA ?_;refine Wg (Ag (Ff (DD L k).m hm)) ?_;refine Wg Br ?_;refine Wq AD ?_;apply Y0;refine Cf ?_;refine Ys<|Ac ?_
        refine Dr [[],[(35,0)],[(36,1)],[],[],[(39,4)],[(38,3),(40,5)],[(41,6)],[(42,7)],[],[],[(44,9),(45,10)],[(46,11)],[(47,12)],[(43,8),(48,13)],[(49,14)],[(37,2),(50,15)]] [[],[0],[0,1],[0,1,2],[0,1,2],[0,1,2,4],[0,1,2,3,4,5],[0,1,2,3,4,5,6],[0,1,2,3,4,5,6,7],[0,1,2],[0,1,2],[0,1,2,9,10],[0,1,2,9,10,11],[0,1,2,9,10,11,12],[0,1,2,3,4,5,6,7,8,9,10,11,12,13],[0,1,2,3,4,5,6,7,8,9,10,11,12,13,14],[0,1,2,3,4,5,6,7,8,9,10,11,12,13,14,15]] ?_
        refine Xq Af ?_;refine Xq Am ?_;refine Xq Af ?_;refine Xg Af ?_;refine Xg Af ?_;refine Xg KQ ?_;refine Xg Az ?_;refine Xg Bb ?_;refine Xg AA ?_;refine Xg Af ?_;refine Xg Af ?_;refine Xg Az ?_;refine Xg Bb ?_;refine Xg AA ?_;refine Xg (Ag (DI (DD L (k - 1)).m (DD L k).m)) ?_;refine Xg Ak ?_;refine Xq AP ?_;refine ⟨_,rfl,?_⟩
        apply Y0;refine Cf ?_;apply BA;apply Ai;refine Yn<|AWp.region<|Wm ?_;refine Wq AR ?_;refine Wa ?_;apply AWl.nil
        refine ALoop.next (L.length - (k+1)) (by omega) ⟨k+1,by omega,rfl,fun j hj=>?_,rfl⟩ ?_
        ·rcases Nat.lt_succ_iff_lt_or_eq.1 hj with h | rfl
         ·exact hall j h
         ·exact ⟨htk,fun _=>hc⟩
        ·exact Aq (by exact Yd<|Yd<|FrLe.nil) (by exact HpLe.nil)
       ·have hno:¬ IN L:=fun h=>hc ((h k hlt).2 h0)
        rw [decide_eq_false hno]
        refine Ac<|Y1<|Wm<|Wm ?_;refine Wq AH ?_;refine Wq Am ?_;apply Y0;refine Ct ?_;refine Ys<|Ac<|AWp.block<|Ac<|Y1<|Wm<|Wm ?_;refine Wq Az ?_;refine Wq Bb ?_;refine Wq CY ?_;refine Wq (Ag (c1)) ?_;refine Wq Br ?_;refine Wm ?_;refine Wg Af ?_;refine Wg Af ?_;refine Wg Az ?_;refine Wg Bb ?_;refine Wg CY ?_;refine Wg (Ag (c2)) ?_;refine Wg Ak ?_;refine Wq AD ?_;refine Wm ?_;refine Wg Af ?_;refine Wg Af ?_;refine Wg Az ?_;refine Wg Bb ?_;refine Wg AA ?_;refine Wg (Ag (Ff (DD L k).m hm)) ?_;refine Wg Br ?_;refine Wq AD ?_;apply Y0;refine Cf ?_;refine Ys<|Ac ?_
        refine Dr [[],[(35,0)],[(36,1)],[],[],[(39,4)],[(38,3),(40,5)],[(41,6)],[(42,7)],[],[],[(44,9),(45,10)],[(46,11)],[(47,12)],[(43,8),(48,13)],[(49,14)],[(37,2),(50,15)]] [[],[0],[0,1],[0,1,2],[0,1,2],[0,1,2,4],[0,1,2,3,4,5],[0,1,2,3,4,5,6],[0,1,2,3,4,5,6,7],[0,1,2],[0,1,2],[0,1,2,9,10],[0,1,2,9,10,11],[0,1,2,9,10,11,12],[0,1,2,3,4,5,6,7,8,9,10,11,12,13],[0,1,2,3,4,5,6,7,8,9,10,11,12,13,14],[0,1,2,3,4,5,6,7,8,9,10,11,12,13,14,15]] ?_
        refine Xq Af ?_;refine Xq Am ?_;refine Xq Af ?_;refine Xg Af ?_;refine Xg Af ?_;refine Xg KQ ?_;refine Xg Az ?_;refine Xg Bb ?_;refine Xg AA ?_;refine Xg Af ?_;refine Xg Af ?_;refine Xg Az ?_;refine Xg Bb ?_;refine Xg AA ?_;refine Xg (Ag (DI (DD L (k - 1)).m (DD L k).m)) ?_;refine Xg Am ?_;refine Xq AP ?_;refine ⟨_,rfl,?_⟩
        apply Y0;refine Ct ?_;refine Y1<|Wa<|Y0 ?_;apply As;apply Bf;apply AJ;apply CK;apply Bf;apply AJ
        exact Yf
     ·have hno:¬ IN L:=fun h=>hm (h k hlt).1.2.2
      rw [decide_eq_false hno]
      refine Ac<|Y1<|Wm<|Wm ?_;refine Wq AH ?_;refine Wq Am ?_;apply Y0;refine Ct ?_;refine Ys<|Ac<|AWp.block<|Ac<|Y1<|Wm<|Wm ?_;refine Wq Az ?_;refine Wq Bb ?_;refine Wq CY ?_;refine Wq (Ag (c1)) ?_;refine Wq Br ?_;refine Wm ?_;refine Wg Af ?_;refine Wg Af ?_;refine Wg Az ?_;refine Wg Bb ?_;refine Wg CY ?_;refine Wg (Ag (c2)) ?_;refine Wg Ak ?_;refine Wq AD ?_;refine Wm ?_;refine Wg Af ?_;refine Wg Af ?_;refine Wg Az ?_;refine Wg Bb ?_;refine Wg AA ?_;refine Wg (Ag (OR (DD L k).m hm)) ?_;refine Wg Br ?_;refine Wq AD ?_;apply Y0;refine Ct ?_;refine Y1<|Wa<|Y0 ?_;apply As;apply AJ;apply Bf;apply AJ;apply CK;apply Bf;apply AJ
      exact Yf
   ·rw [decide_eq_false hq] at c1
    have hno:¬ IN L:=fun h=>hq (h k hlt).1.1
    rw [decide_eq_false hno]
    refine Ac<|Y1<|Wm<|Wm ?_;refine Wq AH ?_;refine Wq Am ?_;apply Y0;refine Ct ?_;refine Ys<|Ac<|AWp.block<|Ac<|Y1<|Wm<|Wm ?_;refine Wq Az ?_;refine Wq Bb ?_;refine Wq CY ?_;refine Wq (Ag (c1)) ?_;refine Wq Br ?_;refine Wm ?_;refine Ws ?_;refine Ws ?_;refine Ws ?_;refine Ws ?_;refine Ws ?_;refine Ws ?_;refine Ws ?_;refine Wq AP ?_;refine Wm ?_;refine Ws ?_;refine Ws ?_;refine Ws ?_;refine Ws ?_;refine Ws ?_;refine Ws ?_;refine Ws ?_;refine Wq AP ?_;apply Y0;refine Ct ?_;refine Y1<|Wa<|Y0 ?_;apply As;apply AJ;apply Bf;apply AJ;apply CK;apply Bf;apply AJ
    exact Yf
  ·obtain rfl : k = L.length := by omega
   have hyes:IN L:=hall
   rw [decide_eq_true hyes]
   refine Ac<|Y1<|Wm<|Wm ?_;refine Wq AH ?_;refine Wq Ak ?_;apply Y0;refine Cf ?_;apply AZ;apply AE;apply AM;apply AF;refine Yn<|Y1<|Wa<|Y0 ?_;apply As
   exact Yf
def Yz (t : Tm):RTm:=⟨decide (t.c.num<0),Ah t.c.num.natAbs,decide ((t.c.den:Int)<0),Ah (t.c.den:Int).natAbs,t.m⟩
theorem YO (P : List Tm):Bi P = rtD (P.map Yz):=by
 unfold Bi rtD
 rw [List.map_map]
 rfl
theorem SY {P : List Tm} {k:Nat} (h:k<P.length):DD (P.map Yz) k = Yz (AQ P k):=by
 unfold DD AQ
 rw [List.getD_eq_getElem?_getD,List.getElem?_map,List.getElem?_eq_getElem h]
 simp [List.getD_eq_getElem?_getD,List.getElem?_eq_getElem h]
theorem A0f (t : Tm):TG (Yz t).b (Yz t).l (Yz t).b' (Yz t).l':=⟨t.c,rfl,rfl,rfl,rfl⟩
theorem A0o {P : List Tm} (h:Yk P) {k:Nat} (hk:k<P.length) (h0:0<k):0<lx (AQ P (k - 1)).m (AQ P k).m:=by
 unfold Yk at h
 rw [List.pairwise_iff_getElem] at h
 have e:∀ k (hk:k<P.length),AQ P k = P[k]:=fun k hk=>by simp [AQ,List.getD_eq_getElem?_getD,List.getElem?_eq_getElem hk]
 rw [e _ hk,e (k - 1) (by omega)]
 exact h (k - 1) k (by omega) hk (by omega)
theorem Wc {P : List Tm} (h:Canon P) (hi:PIn P 0 65535):IN (P.map Yz):=fun k hk=>by
 rw [List.length_map] at hk
 rw [SY hk]
 refine ⟨⟨A0f _,fun e=>?_,hi _ (Dc hk)⟩,fun h0=>?_⟩
 ·have h1:=h.2 _ (Dc hk)
  have h2:Ah (AQ P k).c.num.natAbs = []:=e
  have:=AN.1 (show (Ah (AQ P k).c.num.natAbs).length = 0 by rw [h2];rfl)
  exact Tb h1 (by omega)
 ·rw [SY (by omega)]
  show 0<Fa (AQ P (k - 1)).m (AQ P k).m
  rw [← GK]
  exact A0o h.1 hk h0
theorem YH {P : List Tm} {N:Nat} (h:PSz P N) (hN:N≤1000000000):A1a (P.map Yz):=fun r hr=>by
 obtain ⟨t,ht,rfl⟩:=List.mem_map.1 hr
 have:=h t ht
 exact ⟨Bm _,Bm _,Nat.le_trans this.1 hN,Nat.le_trans this.2 hN⟩
open Classical in
theorem OV (P : List Tm) (N:Nat) (h:Canon P) (hi:PIn P 0 65535) (hs:PSz P N) (hN:N≤1000000000) (hn:P.length≤1000000):Abs Tryz.prog 22 [Bi P] (ex (.bool true)):=by
 have:=QL (P.map Yz) (YH hs hN) (by simpa using hn)
 rw [decide_eq_true (Wc h hi)] at this
 rw [YO]
 exact this
theorem Sh (c : Rat):Abs Tryz.prog 79 [BF (BH c)] (Bi (Dl c)):=by
 by_cases hz:c = 0
 ·have hs:=CT.2 hz
  refine Ab Tryz.func79 fun s0=>?_
  rw [Tryz.ntmps79]
  apply Y1;refine Bx ?_;refine Wa<|Y0<|Ac<|Y1 ?_;refine Wq Ar ?_;refine Wq (Ag (Ex c)) ?_;refine Wq Am ?_;apply Y0;refine Ct ?_;refine Y1<|Wa<|Y0 ?_;apply As;apply AJ
  exact Bd (Rets.of1 (ResV.tmp rfl rfl) (D.le.trans Fk (Do (by rw [Dl,if_pos hz]))))
 ·have hs:c.num.sign ≠ 0:=fun e=>hz (CT.1 e)
  refine Ab Tryz.func79 fun s0=>?_
  rw [Tryz.ntmps79]
  apply Y1;refine Bx ?_;refine Wa<|Y0<|Ac<|Y1 ?_;refine Wq Ar ?_;refine Wq (Ag (Ex c)) ?_;refine Wq Ak ?_;apply Y0;refine Cf ?_;refine Ys<|Y1 ?_;refine Wq Ar ?_;(refine Cz rfl rfl ?_;(refine BO (Ad rfl) rfl rfl rfl ?_;(repeat ((first | refine ⟨_,AK (ao rfl),?_⟩ | refine ⟨_,Po rfl,?_⟩);refine ⟨_,rfl,?_⟩));refine ⟨_,rfl,?_⟩));refine Wq (By (ao rfl) (Ad rfl) (Ad rfl) rfl rfl rfl rfl rfl) ?_;refine Wa<|Y0 ?_;apply As
  exact Bd (Rets.of1 (ResV.tmp rfl rfl) (Bc (by rw [Dl,if_neg hz];rfl)))
theorem HU (n : Int) (h0:-9223372036854775808≤n) (h1:n≤9223372036854775807):Abs Tryz.prog 37 [ex (.int .i64 n)] (Bi (Dl n)):=by
 refine Ab Tryz.func37 fun s0=>?_
 rw [Tryz.ntmps37]
 refine Y1<|Wa<|Y0<|Y1<|Wm ?_;refine Wq (Ag (Bu n h0 h1)) ?_;refine Wq (Ag (Sh n)) ?_;refine Wa<|Y0 ?_;apply As
 exact Yf
theorem XM (i : Nat) (hi:i<8):Abs Tryz.prog 78 [ex (.int .i64 (i:Nat))] (Da [Bi [⟨1,Gi i⟩],ex (.int .i64 0)]):=by
 refine Ab Tryz.func78 fun s0=>?_
 rw [Tryz.ntmps78]
 refine Y1<|Wa<|Wa<|Y0<|Ac<|Y1<|Wm ?_;refine Wq Ak ?_;refine Wm ?_;refine Wg Af ?_;refine Wg Ak ?_;refine Wq AD ?_;apply Y0;refine Cf ?_;refine Ys<|Y1 ?_;(refine Cz rfl rfl ?_;(refine FE (Ad rfl) (Ad rfl) rfl rfl ?_;(repeat ((first | refine ⟨_,AK (ao rfl),?_⟩ | refine ⟨_,Po rfl,?_⟩);refine ⟨_,rfl,?_⟩));refine ⟨_,rfl,?_⟩));refine Al ?_;refine Sf ?_;refine Y0<|Y1<|Wm ?_;refine Wq ER ?_
 refine Yw 0 (Cd fun _=>0) rfl rfl rfl ?_
 (refine Rh (ao rfl) (ao rfl) rfl (Ad rfl) (by first | exact GX rfl | exact One.sl | exact My) (SetAt.mon (by first | omega | (simp;omega))) rfl ?_);refine Y0<|Ac ?_
 refine Dr [[],[],[(14,0),(15,1)],[(16,2)]] [[],[],[0,1],[0,1,2]] ?_
 refine Xq (Ag (Bu 1 (by omega) (by omega))) ?_;refine Xq Ar ?_;(refine Hq rfl ?_;refine BO (Ad rfl) rfl rfl rfl ?_;(repeat ((first | refine ⟨_,AK (ah rfl),?_⟩ | refine ⟨_,Po rfl,?_⟩);refine ⟨_,rfl,?_⟩));refine ⟨_,rfl,?_⟩;refine ⟨_,rfl,?_⟩);(refine Xq (By (ah rfl) (Ad rfl) (Ad rfl) rfl rfl rfl rfl rfl) ?_);refine ⟨_,rfl,?_⟩
 refine Wa<|Wa<|Y0 ?_;apply As
 exact Bd (Co (ResV.tmp rfl rfl) (ResV.tmp rfl rfl) (BW (D.le.refl _) (D.le.refl _)))
theorem XL (i : Nat) (hi:i<8):Abs Tryz.prog 36 [ex (.int .i64 (i:Nat))] (Bi [⟨1,Gi i⟩]):=by
 refine Ab Tryz.func36 fun s0=>?_
 rw [Tryz.ntmps36]
 refine Y1<|Wa<|Y0<|Y1<|Wm ?_;refine Wq (Ag (XM i hi)) ?_;refine Wm ?_;refine Wq Bl ?_;refine Wq Bl ?_;refine Wa<|Wa<|Y0<|Y1<|Wm<|Wa<|Y0 ?_;apply As
 exact Yf
def RJ (a b:Nat→Int) (k:Nat):Nat→Int:=fun j=>if j<k then a j+b j else a j
theorem Xc (a b:Nat→Int) (k:Nat):TZ (RJ a b k) k (a k+b k) = RJ a b (k+1):=by
 funext j
 simp only [TZ,RJ]
 rcases Nat.lt_trichotomy j k with h | h | h
 ·rw [if_neg (by omega),if_pos h,if_pos (by omega)]
 ·subst h;simp
 ·rw [if_neg (by omega),if_neg (by omega),if_neg (by omega)]
theorem YZ (a b:Nat→Int) (k:Nat):RJ a b k k = a k:=if_neg (Nat.lt_irrefl k)
theorem Vp (a b:Nat→Int) (ha:In8 a 0 65535) (hb:In8 b 0 65535) (h:In8 (AU a b) 0 65535):Abs Tryz.prog 72 [BF (Cd a),BF (Cd b)] (Da [BF (Cd (AU a b)),ex (.int .i64 0)]):=by
 refine Ab Tryz.func72 fun s0=>?_
 rw [Tryz.ntmps72]
 apply Y1;refine Bx ?_;refine Bx ?_;refine Al ?_;refine Wa<|Y0<|Ac<|Y1<|Wa<|Y0<|AWp.block ?_
 refine Ba (fun mz σ=>∃ k,k≤8∧mz = 8 - k∧σ = ⟨[(2,.ptr 0 0),(3,.ptr 1 0),(4,.ptr 2 0),(6,.d (ex (.int .i64 (k:Nat))))],[.var 70 ((Cd (RJ a b k)).map .d),.var 70 ((Cd b).map .d),.var 70 ((Cd fun _=>0).map .d)]⟩) ?le ⟨0,by omega,rfl,rfl⟩ ?round
 case le=>exact Aq (by exact Yp<|Yp<|Yp<|Yd<|FrLe.nil) (by exact Yv<|Yv<|Yv<|HpLe.nil)
 case round =>
  rintro mz _ ⟨k,hk,rfl,rfl⟩
  by_cases hlt:k<8
  ·have h1:=YZ a b k
   have h2:=ha k hlt
   have h3:=hb k hlt
   refine Ac<|Y1<|Wm ?_;refine Wq Am ?_;apply Y0;refine Ct ?_;refine Ys<|Ac<|AWp.block ?_
   refine Dr [[],[(11,0)],[(12,1)],[],[(14,3)],[(15,4)],[(13,2),(16,5)],[(11,0)]] [[],[0],[0,1],[],[3],[3,4],[0,1,2,3,4,5],[0,1,2,3,4,5,6]] ?_
   refine Xq Af ?_;refine Xq ER ?_;refine Xq ED ?_;refine Xq Af ?_;refine Xq ER ?_;refine Xq ED ?_;refine Xq El ?_;refine Xq ER ?_;refine ⟨_,rfl,?_⟩
   (refine Rh (ao rfl) (ao rfl) rfl (Ad rfl) (by first | exact GX rfl | exact One.sl | exact My) (SetAt.mon (by first | omega | (simp;omega))) rfl ?_);apply AWl.nil;apply Ai;refine Yn<|AWp.region<|Wm ?_;refine Wq AR ?_;refine Wa ?_;apply AWl.nil
   refine ALoop.next (8 - (k+1)) (by omega) ⟨k+1,by omega,rfl,rfl⟩ ?_
   exact Aq (by exact Yp<|Yp<|Yp<|Yd<|FrLe.nil) (by exact HpLe.cons (GD (by rw [h1,Xc]))<|Yv<|Yv<|HpLe.nil)
  ·obtain rfl : k = 8 := by omega
   refine Ac<|Y1<|Wm ?_;refine Wq Ak ?_;apply Y0;refine Cf ?_;apply AZ;apply AE;apply AM;apply AF;refine Yn<|Ac<|Y1 ?_;refine Wq Ar ?_;refine Wq (Ag (Ff (RJ a b 8) fun i hi=>by have:=h i hi;rw [RJ,if_pos hi];exact this)) ?_;refine Wq Br ?_;apply Y0;refine Cf ?_;refine Ys<|Y1 ?_;refine Wq Ar ?_;refine Sf ?_;refine Wa<|Y0 ?_;apply As
   exact Bd (Co (ResV.cell rfl rfl (Ad rfl) rfl rfl rfl) (ResV.tmp rfl rfl) (BW (D.le.refl _) (D.le.refl _)))
theorem A0j {s t:Tm} {P Q:List Tm} (h:lx s.m t.m = 1):CW (s :: P) (t :: Q) = s :: CW P (t :: Q):=by
 rw [CW,if_pos (show 0<lx s.m t.m by omega)]
theorem A0i {s t:Tm} {P Q:List Tm} (h:lx s.m t.m = -1):CW (s :: P) (t :: Q) = t :: CW (s :: P) Q:=by
 rw [CW,if_neg (show ¬ 0<lx s.m t.m by omega),if_pos (show lx s.m t.m<0 by omega)]
theorem WZ {s t:Tm} {P Q:List Tm} (h:lx s.m t.m = 0):CW (s :: P) (t :: Q) = if s.c+t.c = 0 then CW P Q else ⟨s.c+t.c,s.m⟩ :: CW P Q:=by
 rw [CW,if_neg (show ¬ 0<lx s.m t.m by omega),if_neg (show ¬ lx s.m t.m<0 by omega)]
theorem EY (Q : List Tm):CW [] Q = Q:=by rw [CW]
theorem Mt (P Q:List Tm) (N M:Nat) (hP:PSz P N) (hQ:PSz Q M) (hNM:N+M+1≤4398046511103) (hn:P.length+Q.length≤100000):Abs Tryz.prog 29 [Bi P,Bi Q] (Bi (CW P Q)):=by
 refine Ab Tryz.func29 fun s0=>?_
 rw [Tryz.ntmps29]
 refine Y1<|Wa<|Y0<|Y1 ?_;refine EA (Ad rfl) (Ad rfl) rfl rfl rfl rfl rfl ?_;refine Wa<|Y0<|Y1<|Wa<|Wa<|Y0<|Ac<|AWp.block ?_
 refine Ba (fun mz σ=>∃ (i k:Nat) (R:List Tm),i≤P.length∧k≤Q.length∧R ++ CW (P.drop i) (Q.drop k) = CW P Q∧R.length≤i+k∧mz = (P.length - i)+(Q.length - k)∧σ = ⟨[(0,.d (Bi P)),(1,.d (Bi Q)),(5,.own 0),(6,.d (ex (.int .i64 (i:Nat)))),(7,.d (ex (.int .i64 (k:Nat))))],[.row 72 12 (R.map Iy)]⟩) ?le ⟨0,0,[],by omega,by omega,rfl,by simp,rfl,rfl⟩ ?round
 case le=>exact Aq (by exact Yd<|Yd<|FrLe.cons rfl (AVle.own rfl)<|Yd<|Yd<|FrLe.nil) (by exact Yr<|HpLe.nil)
 case round =>
  rintro mz _ ⟨i,k,R,hi,hk,heq,hl,rfl,rfl⟩
  by_cases hip:i<P.length
  ·have hdP:=HJ hip
   by_cases hkq:k<Q.length
   ·have hdQ:=HJ hkq
    rw [hdP,hdQ] at heq
    have hs:=hP _ (Dc hip)
    have ht:=hQ _ (Dc hkq)
    rcases JP (AQ P i).m (AQ Q k).m with hc | hc | hc
    ·have hc' : Fa (AQ P i).m (AQ Q k).m = -1 := by rw [← GK]; exact hc
     refine Ac<|Y1<|Wm<|Wm ?_;refine Wq AH ?_;refine Wq Am ?_;refine Wm ?_;refine Ws ?_;refine Ws ?_;refine Ws ?_;refine Ws ?_;refine Wq AP ?_;apply Y0;refine Ct ?_;refine Ys<|AWp.block<|Ac<|Ac ?_
     refine Dr [[],[],[(21,1)],[(20,0),(22,2)],[(23,3)],[],[],[(26,6)],[(25,5),(27,7)],[(28,8)],[],[],[(30,10),(31,11)],[(32,12)],[(33,13)],[],[],[(35,15),(36,16)],[(37,17)],[(38,18)],[(34,14),(39,19)],[(40,20)],[(29,9),(41,21)],[(24,4),(42,22)]] [[],[],[1],[0,1,2],[0,1,2,3],[0,1,2,3,4],[0,1,2,3,4],[0,1,2,3,4,6],[0,1,2,3,4,5,6,7],[0,1,2,3,4,5,6,7,8],[0,1,2,3,4,5,6,7,8,9],[0,1,2,3,4,5,6,7,8,9],[0,1,2,3,4,5,6,7,8,9,10,11],[0,1,2,3,4,5,6,7,8,9,10,11,12],[0,1,2,3,4,5,6,7,8,9,10,11,12,13],[0,1,2,3,4,5,6,7,8,9],[0,1,2,3,4,5,6,7,8,9],[0,1,2,3,4,5,6,7,8,9,15,16],[0,1,2,3,4,5,6,7,8,9,15,16,17],[0,1,2,3,4,5,6,7,8,9,15,16,17,18],[0,1,2,3,4,5,6,7,8,9,10,11,12,13,14,15,16,17,18,19],[0,1,2,3,4,5,6,7,8,9,10,11,12,13,14,15,16,17,18,19,20],[0,1,2,3,4,5,6,7,8,9,10,11,12,13,14,15,16,17,18,19,20,21],[0,1,2,3,4,5,6,7,8,9,10,11,12,13,14,15,16,17,18,19,20,21,22]] ?_
     refine Xq Af ?_;refine Xq Af ?_;refine Xq AH ?_;refine Xq Ak ?_;refine Xq Af ?_;refine Xg Af ?_;refine Xg Af ?_;refine Xg AH ?_;refine Xg Am ?_;refine Xg Af ?_;refine Xg Af ?_;refine Xg Af ?_;refine Xg Az ?_;refine Xg Bb ?_;refine Xg AA ?_;refine Xg Af ?_;refine Xg Af ?_;refine Xg Az ?_;refine Xg Bb ?_;refine Xg AA ?_;refine Xg (Ag (DI (AQ P i).m (AQ Q k).m)) ?_;refine Xg Ak ?_;refine Xg AP ?_;refine Xq AD ?_;refine ⟨_,rfl,?_⟩
     apply Y0;refine Cf ?_;refine Ys<|Ac<|Ac ?_
     refine Dr [[],[],[(54,1)],[(53,0),(55,2)],[(56,3)],[],[],[(58,5),(59,6)],[(60,7)],[(61,8)],[],[],[(63,10),(64,11)],[(65,12)],[(66,13)],[(62,9),(67,14)],[(68,15)],[(57,4),(69,16)]] [[],[],[1],[0,1,2],[0,1,2,3],[0,1,2,3,4],[0,1,2,3,4],[0,1,2,3,4,5,6],[0,1,2,3,4,5,6,7],[0,1,2,3,4,5,6,7,8],[0,1,2,3,4],[0,1,2,3,4],[0,1,2,3,4,10,11],[0,1,2,3,4,10,11,12],[0,1,2,3,4,10,11,12,13],[0,1,2,3,4,5,6,7,8,9,10,11,12,13,14],[0,1,2,3,4,5,6,7,8,9,10,11,12,13,14,15],[0,1,2,3,4,5,6,7,8,9,10,11,12,13,14,15,16]] ?_
     refine Xq Af ?_;refine Xq Af ?_;refine Xq AH ?_;refine Xq Ak ?_;refine Xq Af ?_;refine Xg Af ?_;refine Xg Af ?_;refine Xg Az ?_;refine Xg Bb ?_;refine Xg AA ?_;refine Xg Af ?_;refine Xg Af ?_;refine Xg Az ?_;refine Xg Bb ?_;refine Xg AA ?_;refine Xg (Ag (DI (AQ P i).m (AQ Q k).m)) ?_;refine Xg Am ?_;refine Xq AD ?_;refine ⟨_,rfl,?_⟩
     apply Y0;refine Ct ?_;refine Y1<|Wm<|Wm<|Wm ?_;refine Wq Az ?_;refine Wq AA ?_;refine Wq (By (ao rfl) (Ad rfl) (Ad rfl) rfl rfl rfl rfl rfl) ?_;(refine Ap ?_);refine Wa<|Y0<|Y1<|Wm ?_;refine Wq AR ?_;refine Wa<|Y0 ?_;apply AZ;apply AE;apply AF
     refine ALoop.next ((P.length - i)+(Q.length - (k+1))) (by omega) ⟨i,k+1,R ++ [AQ Q k],by omega,by omega,?_,by simp;omega,rfl,rfl⟩ ?_
     ·rw [A0i hc] at heq
      rw [← heq,hdP];simp
     ·exact Aq (by exact Yd<|Yd<|FrLe.cons rfl (AVle.own rfl)<|Yd<|Yd<|FrLe.nil) (by refine HpLe.cons (Cp (Dn Iy R (AQ Q k))) ?_;exact HpLe.nil)
    ·have hc' : Fa (AQ P i).m (AQ Q k).m = 0 := by rw [← GK]; exact hc
     by_cases hz:(AQ P i).c+(AQ Q k).c = 0
     ·have hsg:=CT.2 hz
      refine Ac<|Y1<|Wm<|Wm ?_;refine Wq AH ?_;refine Wq Am ?_;refine Wm ?_;refine Ws ?_;refine Ws ?_;refine Ws ?_;refine Ws ?_;refine Wq AP ?_;apply Y0;refine Ct ?_;refine Ys<|AWp.block<|Ac<|Ac ?_
      refine Dr [[],[],[(21,1)],[(20,0),(22,2)],[(23,3)],[],[],[(26,6)],[(25,5),(27,7)],[(28,8)],[],[],[(30,10),(31,11)],[(32,12)],[(33,13)],[],[],[(35,15),(36,16)],[(37,17)],[(38,18)],[(34,14),(39,19)],[(40,20)],[(29,9),(41,21)],[(24,4),(42,22)]] [[],[],[1],[0,1,2],[0,1,2,3],[0,1,2,3,4],[0,1,2,3,4],[0,1,2,3,4,6],[0,1,2,3,4,5,6,7],[0,1,2,3,4,5,6,7,8],[0,1,2,3,4,5,6,7,8,9],[0,1,2,3,4,5,6,7,8,9],[0,1,2,3,4,5,6,7,8,9,10,11],[0,1,2,3,4,5,6,7,8,9,10,11,12],[0,1,2,3,4,5,6,7,8,9,10,11,12,13],[0,1,2,3,4,5,6,7,8,9],[0,1,2,3,4,5,6,7,8,9],[0,1,2,3,4,5,6,7,8,9,15,16],[0,1,2,3,4,5,6,7,8,9,15,16,17],[0,1,2,3,4,5,6,7,8,9,15,16,17,18],[0,1,2,3,4,5,6,7,8,9,10,11,12,13,14,15,16,17,18,19],[0,1,2,3,4,5,6,7,8,9,10,11,12,13,14,15,16,17,18,19,20],[0,1,2,3,4,5,6,7,8,9,10,11,12,13,14,15,16,17,18,19,20,21],[0,1,2,3,4,5,6,7,8,9,10,11,12,13,14,15,16,17,18,19,20,21,22]] ?_
      refine Xq Af ?_;refine Xq Af ?_;refine Xq AH ?_;refine Xq Ak ?_;refine Xq Af ?_;refine Xg Af ?_;refine Xg Af ?_;refine Xg AH ?_;refine Xg Am ?_;refine Xg Af ?_;refine Xg Af ?_;refine Xg Af ?_;refine Xg Az ?_;refine Xg Bb ?_;refine Xg AA ?_;refine Xg Af ?_;refine Xg Af ?_;refine Xg Az ?_;refine Xg Bb ?_;refine Xg AA ?_;refine Xg (Ag (DI (AQ P i).m (AQ Q k).m)) ?_;refine Xg Ak ?_;refine Xg AP ?_;refine Xq AD ?_;refine ⟨_,rfl,?_⟩
      apply Y0;refine Cf ?_;refine Ys<|Ac<|Ac ?_
      refine Dr [[],[],[(54,1)],[(53,0),(55,2)],[(56,3)],[],[],[(58,5),(59,6)],[(60,7)],[(61,8)],[],[],[(63,10),(64,11)],[(65,12)],[(66,13)],[(62,9),(67,14)],[(68,15)],[(57,4),(69,16)]] [[],[],[1],[0,1,2],[0,1,2,3],[0,1,2,3,4],[0,1,2,3,4],[0,1,2,3,4,5,6],[0,1,2,3,4,5,6,7],[0,1,2,3,4,5,6,7,8],[0,1,2,3,4],[0,1,2,3,4],[0,1,2,3,4,10,11],[0,1,2,3,4,10,11,12],[0,1,2,3,4,10,11,12,13],[0,1,2,3,4,5,6,7,8,9,10,11,12,13,14],[0,1,2,3,4,5,6,7,8,9,10,11,12,13,14,15],[0,1,2,3,4,5,6,7,8,9,10,11,12,13,14,15,16]] ?_
      refine Xq Af ?_;refine Xq Af ?_;refine Xq AH ?_;refine Xq Ak ?_;refine Xq Af ?_;refine Xg Af ?_;refine Xg Af ?_;refine Xg Az ?_;refine Xg Bb ?_;refine Xg AA ?_;refine Xg Af ?_;refine Xg Af ?_;refine Xg Az ?_;refine Xg Bb ?_;refine Xg AA ?_;refine Xg (Ag (DI (AQ P i).m (AQ Q k).m)) ?_;refine Xg Ak ?_;refine Xq AD ?_;refine ⟨_,rfl,?_⟩
      apply Y0;refine Cf ?_;refine Ys<|Ac ?_
      refine Dr [[],[],[(80,0),(81,1)],[(82,2)],[(83,3)],[],[],[(85,5),(86,6)],[(87,7)],[(88,8)],[(84,4),(89,9)],[]] [[],[],[0,1],[0,1,2],[0,1,2,3],[],[],[5,6],[5,6,7],[5,6,7,8],[0,1,2,3,4,5,6,7,8,9],[]] ?_
      refine Xq Af ?_;refine Xq Af ?_;refine Xq Az ?_;refine Xq Bb ?_;refine Xq CY ?_;refine Xq Af ?_;refine Xq Af ?_;refine Xq Az ?_;refine Xq Bb ?_;refine Xq CY ?_;refine Xq (Ag (Mu (AQ P i).c (AQ Q k).c N M hs ht hNM)) ?_;refine Xn ?_;refine ⟨_,rfl,?_⟩
      refine Sf ?_;refine Y0<|Ac<|Y1 ?_;refine Wq Ar ?_;refine Wq (Ag (Ex ((AQ P i).c+(AQ Q k).c))) ?_;refine Wq Ak ?_;apply Y0;refine Cf ?_;refine Ys<|Y1<|Wm ?_;refine Wq AR ?_;refine Wa<|Y0<|AWp.region<|Wm ?_;refine Wq AR ?_;refine Wa ?_;apply AWl.nil;apply Ai
      refine ALoop.next ((P.length - (i+1))+(Q.length - (k+1))) (by omega) ⟨i+1,k+1,R,by omega,by omega,?_,by omega,rfl,rfl⟩ ?_
      ·rw [WZ hc,if_pos hz] at heq
       exact heq
      ·exact Aq (by exact Yd<|Yd<|FrLe.cons rfl (AVle.own rfl)<|Yd<|Yd<|FrLe.nil) (by exact Yr<|HpLe.nil)
     ·have hsg:((AQ P i).c+(AQ Q k).c).num.sign ≠ 0:=fun e=>hz (CT.1 e)
      refine Ac<|Y1<|Wm<|Wm ?_;refine Wq AH ?_;refine Wq Am ?_;refine Wm ?_;refine Ws ?_;refine Ws ?_;refine Ws ?_;refine Ws ?_;refine Wq AP ?_;apply Y0;refine Ct ?_;refine Ys<|AWp.block<|Ac<|Ac ?_
      refine Dr [[],[],[(21,1)],[(20,0),(22,2)],[(23,3)],[],[],[(26,6)],[(25,5),(27,7)],[(28,8)],[],[],[(30,10),(31,11)],[(32,12)],[(33,13)],[],[],[(35,15),(36,16)],[(37,17)],[(38,18)],[(34,14),(39,19)],[(40,20)],[(29,9),(41,21)],[(24,4),(42,22)]] [[],[],[1],[0,1,2],[0,1,2,3],[0,1,2,3,4],[0,1,2,3,4],[0,1,2,3,4,6],[0,1,2,3,4,5,6,7],[0,1,2,3,4,5,6,7,8],[0,1,2,3,4,5,6,7,8,9],[0,1,2,3,4,5,6,7,8,9],[0,1,2,3,4,5,6,7,8,9,10,11],[0,1,2,3,4,5,6,7,8,9,10,11,12],[0,1,2,3,4,5,6,7,8,9,10,11,12,13],[0,1,2,3,4,5,6,7,8,9],[0,1,2,3,4,5,6,7,8,9],[0,1,2,3,4,5,6,7,8,9,15,16],[0,1,2,3,4,5,6,7,8,9,15,16,17],[0,1,2,3,4,5,6,7,8,9,15,16,17,18],[0,1,2,3,4,5,6,7,8,9,10,11,12,13,14,15,16,17,18,19],[0,1,2,3,4,5,6,7,8,9,10,11,12,13,14,15,16,17,18,19,20],[0,1,2,3,4,5,6,7,8,9,10,11,12,13,14,15,16,17,18,19,20,21],[0,1,2,3,4,5,6,7,8,9,10,11,12,13,14,15,16,17,18,19,20,21,22]] ?_
      refine Xq Af ?_;refine Xq Af ?_;refine Xq AH ?_;refine Xq Ak ?_;refine Xq Af ?_;refine Xg Af ?_;refine Xg Af ?_;refine Xg AH ?_;refine Xg Am ?_;refine Xg Af ?_;refine Xg Af ?_;refine Xg Af ?_;refine Xg Az ?_;refine Xg Bb ?_;refine Xg AA ?_;refine Xg Af ?_;refine Xg Af ?_;refine Xg Az ?_;refine Xg Bb ?_;refine Xg AA ?_;refine Xg (Ag (DI (AQ P i).m (AQ Q k).m)) ?_;refine Xg Ak ?_;refine Xg AP ?_;refine Xq AD ?_;refine ⟨_,rfl,?_⟩
      apply Y0;refine Cf ?_;refine Ys<|Ac<|Ac ?_
      refine Dr [[],[],[(54,1)],[(53,0),(55,2)],[(56,3)],[],[],[(58,5),(59,6)],[(60,7)],[(61,8)],[],[],[(63,10),(64,11)],[(65,12)],[(66,13)],[(62,9),(67,14)],[(68,15)],[(57,4),(69,16)]] [[],[],[1],[0,1,2],[0,1,2,3],[0,1,2,3,4],[0,1,2,3,4],[0,1,2,3,4,5,6],[0,1,2,3,4,5,6,7],[0,1,2,3,4,5,6,7,8],[0,1,2,3,4],[0,1,2,3,4],[0,1,2,3,4,10,11],[0,1,2,3,4,10,11,12],[0,1,2,3,4,10,11,12,13],[0,1,2,3,4,5,6,7,8,9,10,11,12,13,14],[0,1,2,3,4,5,6,7,8,9,10,11,12,13,14,15],[0,1,2,3,4,5,6,7,8,9,10,11,12,13,14,15,16]] ?_
      refine Xq Af ?_;refine Xq Af ?_;refine Xq AH ?_;refine Xq Ak ?_;refine Xq Af ?_;refine Xg Af ?_;refine Xg Af ?_;refine Xg Az ?_;refine Xg Bb ?_;refine Xg AA ?_;refine Xg Af ?_;refine Xg Af ?_;refine Xg Az ?_;refine Xg Bb ?_;refine Xg AA ?_;refine Xg (Ag (DI (AQ P i).m (AQ Q k).m)) ?_;refine Xg Ak ?_;refine Xq AD ?_;refine ⟨_,rfl,?_⟩
      apply Y0;refine Cf ?_;refine Ys<|Ac ?_
      refine Dr [[],[],[(80,0),(81,1)],[(82,2)],[(83,3)],[],[],[(85,5),(86,6)],[(87,7)],[(88,8)],[(84,4),(89,9)],[]] [[],[],[0,1],[0,1,2],[0,1,2,3],[],[],[5,6],[5,6,7],[5,6,7,8],[0,1,2,3,4,5,6,7,8,9],[]] ?_
      refine Xq Af ?_;refine Xq Af ?_;refine Xq Az ?_;refine Xq Bb ?_;refine Xq CY ?_;refine Xq Af ?_;refine Xq Af ?_;refine Xq Az ?_;refine Xq Bb ?_;refine Xq CY ?_;refine Xq (Ag (Mu (AQ P i).c (AQ Q k).c N M hs ht hNM)) ?_;refine Xn ?_;refine ⟨_,rfl,?_⟩
      refine Sf ?_;refine Y0<|Ac<|Y1 ?_;refine Wq Ar ?_;refine Wq (Ag (Ex ((AQ P i).c+(AQ Q k).c))) ?_;refine Wq Am ?_;apply Y0;refine Ct ?_
      refine Dr [[],[],[],[],[(96,2),(97,3)],[(98,4)],[(99,5)],[(95,1),(100,6)],[(101,7)]] [[],[],[],[],[2,3],[2,3,4],[2,3,4,5],[1,2,3,4,5,6],[1,2,3,4,5,6,7]] ?_
      refine Xq Af ?_;refine Xq Ar ?_;refine Xq Af ?_;refine Xq Af ?_;refine Xq Az ?_;refine Xq Bb ?_;refine Xq AA ?_;(refine Hq rfl ?_;refine BO (Ad rfl) rfl rfl rfl ?_;(repeat ((first | refine ⟨_,AK (ah rfl),?_⟩ | refine ⟨_,Po rfl,?_⟩);refine ⟨_,rfl,?_⟩));refine ⟨_,rfl,?_⟩;refine ⟨_,rfl,?_⟩);(refine Xq (By (ah rfl) (Ad rfl) (Ad rfl) rfl rfl rfl rfl rfl) ?_);refine ⟨_,rfl,?_⟩
      (refine Ap ?_);refine Wa<|Y0<|Y1<|Wm ?_;refine Wq AR ?_;refine Wa<|Y0<|AWp.region<|Wm ?_;refine Wq AR ?_;refine Wa ?_;apply AWl.nil;apply Ai
      refine ALoop.next ((P.length - (i+1))+(Q.length - (k+1))) (by omega) ⟨i+1,k+1,R ++ [⟨(AQ P i).c+(AQ Q k).c,(AQ P i).m⟩],by omega,by omega,?_,by simp;omega,rfl,rfl⟩ ?_
      ·rw [WZ hc,if_neg hz] at heq
       rw [← heq];simp
      ·exact Aq (by exact Yd<|Yd<|FrLe.cons rfl (AVle.own rfl)<|Yd<|Yd<|FrLe.nil) (by refine HpLe.cons (Cp (Dn Iy R ⟨(AQ P i).c+(AQ Q k).c,(AQ P i).m⟩)) ?_;exact HpLe.nil)
    ·have hc' : Fa (AQ P i).m (AQ Q k).m = 1 := by rw [← GK]; exact hc
     refine Ac<|Y1<|Wm<|Wm ?_;refine Wq AH ?_;refine Wq Am ?_;refine Wm ?_;refine Ws ?_;refine Ws ?_;refine Ws ?_;refine Ws ?_;refine Wq AP ?_;apply Y0;refine Ct ?_;refine Ys<|AWp.block<|Ac<|Ac ?_
     refine Dr [[],[],[(21,1)],[(20,0),(22,2)],[(23,3)],[],[],[(26,6)],[(25,5),(27,7)],[(28,8)],[],[],[(30,10),(31,11)],[(32,12)],[(33,13)],[],[],[(35,15),(36,16)],[(37,17)],[(38,18)],[(34,14),(39,19)],[(40,20)],[(29,9),(41,21)],[(24,4),(42,22)]] [[],[],[1],[0,1,2],[0,1,2,3],[0,1,2,3,4],[0,1,2,3,4],[0,1,2,3,4,6],[0,1,2,3,4,5,6,7],[0,1,2,3,4,5,6,7,8],[0,1,2,3,4,5,6,7,8,9],[0,1,2,3,4,5,6,7,8,9],[0,1,2,3,4,5,6,7,8,9,10,11],[0,1,2,3,4,5,6,7,8,9,10,11,12],[0,1,2,3,4,5,6,7,8,9,10,11,12,13],[0,1,2,3,4,5,6,7,8,9],[0,1,2,3,4,5,6,7,8,9],[0,1,2,3,4,5,6,7,8,9,15,16],[0,1,2,3,4,5,6,7,8,9,15,16,17],[0,1,2,3,4,5,6,7,8,9,15,16,17,18],[0,1,2,3,4,5,6,7,8,9,10,11,12,13,14,15,16,17,18,19],[0,1,2,3,4,5,6,7,8,9,10,11,12,13,14,15,16,17,18,19,20],[0,1,2,3,4,5,6,7,8,9,10,11,12,13,14,15,16,17,18,19,20,21],[0,1,2,3,4,5,6,7,8,9,10,11,12,13,14,15,16,17,18,19,20,21,22]] ?_
     refine Xq Af ?_;refine Xq Af ?_;refine Xq AH ?_;refine Xq Ak ?_;refine Xq Af ?_;refine Xg Af ?_;refine Xg Af ?_;refine Xg AH ?_;refine Xg Am ?_;refine Xg Af ?_;refine Xg Af ?_;refine Xg Af ?_;refine Xg Az ?_;refine Xg Bb ?_;refine Xg AA ?_;refine Xg Af ?_;refine Xg Af ?_;refine Xg Az ?_;refine Xg Bb ?_;refine Xg AA ?_;refine Xg (Ag (DI (AQ P i).m (AQ Q k).m)) ?_;refine Xg Am ?_;refine Xg AP ?_;refine Xq AD ?_;refine ⟨_,rfl,?_⟩
     apply Y0;refine Ct ?_;refine Y1<|Wm<|Wm<|Wm ?_;refine Wq Az ?_;refine Wq AA ?_;refine Wq (By (ao rfl) (Ad rfl) (Ad rfl) rfl rfl rfl rfl rfl) ?_;(refine Ap ?_);refine Wa<|Y0<|Y1<|Wm ?_;refine Wq AR ?_;refine Wa<|Y0 ?_;apply AZ;apply AE;apply AF
     refine ALoop.next ((P.length - (i+1))+(Q.length - k)) (by omega) ⟨i+1,k,R ++ [AQ P i],by omega,by omega,?_,by simp;omega,rfl,rfl⟩ ?_
     ·rw [A0j hc] at heq
      rw [← heq,hdQ];simp
     ·exact Aq (by exact Yd<|Yd<|FrLe.cons rfl (AVle.own rfl)<|Yd<|Yd<|FrLe.nil) (by refine HpLe.cons (Cp (Dn Iy R (AQ P i))) ?_;exact HpLe.nil)
   ·refine Ac<|Y1<|Wm<|Wm ?_;refine Wq AH ?_;refine Wq Am ?_;refine Wm ?_;refine Ws ?_;refine Ws ?_;refine Ws ?_;refine Ws ?_;refine Wq AP ?_;apply Y0;refine Ct ?_;refine Ys<|AWp.block<|Ac<|Ac ?_
    refine Dr [[],[],[(21,1)],[(20,0),(22,2)],[(23,3)],[],[],[(26,6)],[(25,5),(27,7)],[(28,8)],[],[],[(30,10),(31,11)],[(32,12)],[(33,13)],[],[],[(35,15),(36,16)],[(37,17)],[(38,18)],[(34,14),(39,19)],[(40,20)],[(29,9),(41,21)],[(24,4),(42,22)]] [[],[],[1],[0,1,2],[0,1,2,3],[0,1,2,3,4],[0,1,2,3,4],[0,1,2,3,4,6],[0,1,2,3,4,5,6,7],[0,1,2,3,4,5,6,7,8],[0,1,2,3,4,5,6,7,8,9],[0,1,2,3,4,5,6,7,8,9],[0,1,2,3,4,5,6,7,8,9,10,11],[0,1,2,3,4,5,6,7,8,9,10,11,12],[0,1,2,3,4,5,6,7,8,9,10,11,12,13],[0,1,2,3,4,5,6,7,8,9],[0,1,2,3,4,5,6,7,8,9],[0,1,2,3,4,5,6,7,8,9,15,16],[0,1,2,3,4,5,6,7,8,9,15,16,17],[0,1,2,3,4,5,6,7,8,9,15,16,17,18],[0,1,2,3,4,5,6,7,8,9,10,11,12,13,14,15,16,17,18,19],[0,1,2,3,4,5,6,7,8,9,10,11,12,13,14,15,16,17,18,19,20],[0,1,2,3,4,5,6,7,8,9,10,11,12,13,14,15,16,17,18,19,20,21],[0,1,2,3,4,5,6,7,8,9,10,11,12,13,14,15,16,17,18,19,20,21,22]] ?_
    refine Xq Af ?_;refine Xq Af ?_;refine Xq AH ?_;refine Xq Am ?_;refine Xq Af ?_;refine Xs ?_;refine Xs ?_;refine Xs ?_;refine Xs ?_;refine Xs ?_;refine Xs ?_;refine Xs ?_;refine Xs ?_;refine Xs ?_;refine Xs ?_;refine Xs ?_;refine Xs ?_;refine Xs ?_;refine Xs ?_;refine Xs ?_;refine Xs ?_;refine Xs ?_;refine Xs ?_;refine Xq AP ?_;refine ⟨_,rfl,?_⟩
    apply Y0;refine Ct ?_;refine Y1<|Wm<|Wm<|Wm ?_;refine Wq Az ?_;refine Wq AA ?_;refine Wq (By (ao rfl) (Ad rfl) (Ad rfl) rfl rfl rfl rfl rfl) ?_;(refine Ap ?_);refine Wa<|Y0<|Y1<|Wm ?_;refine Wq AR ?_;refine Wa<|Y0 ?_;apply AZ;apply AE;apply AF
    refine ALoop.next ((P.length - (i+1))+(Q.length - k)) (by omega) ⟨i+1,k,R ++ [AQ P i],by omega,by omega,?_,by simp;omega,rfl,rfl⟩ ?_
    ·have hq : Q.drop k = [] := List.drop_eq_nil_of_le (by omega)
     rw [hdP,hq,Ov] at heq
     rw [← heq,hq,Ov];simp
    ·exact Aq (by exact Yd<|Yd<|FrLe.cons rfl (AVle.own rfl)<|Yd<|Yd<|FrLe.nil) (by refine HpLe.cons (Cp (Dn Iy R (AQ P i))) ?_;exact HpLe.nil)
  ·have hp : P.drop i = [] := List.drop_eq_nil_of_le (by omega)
   by_cases hkq:k<Q.length
   ·have hdQ:=HJ hkq
    refine Ac<|Y1<|Wm<|Wm ?_;refine Wq AH ?_;refine Wq Ak ?_;refine Wm ?_;refine Wg Af ?_;refine Wg Af ?_;refine Wg AH ?_;refine Wg Am ?_;refine Wq AD ?_;apply Y0;refine Ct ?_;refine Ys<|AWp.block<|Ac<|Ac ?_
    refine Dr [[],[],[(21,1)],[(20,0),(22,2)],[(23,3)],[],[],[(26,6)],[(25,5),(27,7)],[(28,8)],[],[],[(30,10),(31,11)],[(32,12)],[(33,13)],[],[],[(35,15),(36,16)],[(37,17)],[(38,18)],[(34,14),(39,19)],[(40,20)],[(29,9),(41,21)],[(24,4),(42,22)]] [[],[],[1],[0,1,2],[0,1,2,3],[0,1,2,3,4],[0,1,2,3,4],[0,1,2,3,4,6],[0,1,2,3,4,5,6,7],[0,1,2,3,4,5,6,7,8],[0,1,2,3,4,5,6,7,8,9],[0,1,2,3,4,5,6,7,8,9],[0,1,2,3,4,5,6,7,8,9,10,11],[0,1,2,3,4,5,6,7,8,9,10,11,12],[0,1,2,3,4,5,6,7,8,9,10,11,12,13],[0,1,2,3,4,5,6,7,8,9],[0,1,2,3,4,5,6,7,8,9],[0,1,2,3,4,5,6,7,8,9,15,16],[0,1,2,3,4,5,6,7,8,9,15,16,17],[0,1,2,3,4,5,6,7,8,9,15,16,17,18],[0,1,2,3,4,5,6,7,8,9,10,11,12,13,14,15,16,17,18,19],[0,1,2,3,4,5,6,7,8,9,10,11,12,13,14,15,16,17,18,19,20],[0,1,2,3,4,5,6,7,8,9,10,11,12,13,14,15,16,17,18,19,20,21],[0,1,2,3,4,5,6,7,8,9,10,11,12,13,14,15,16,17,18,19,20,21,22]] ?_
    refine Xq Af ?_;refine Xq Af ?_;refine Xq AH ?_;refine Xq Ak ?_;refine Xq Af ?_;refine Xg Af ?_;refine Xg Af ?_;refine Xg AH ?_;refine Xg Ak ?_;refine Xg Af ?_;refine Xs ?_;refine Xs ?_;refine Xs ?_;refine Xs ?_;refine Xs ?_;refine Xs ?_;refine Xs ?_;refine Xs ?_;refine Xs ?_;refine Xs ?_;refine Xs ?_;refine Xs ?_;refine Xg AD ?_;refine Xq AD ?_;refine ⟨_,rfl,?_⟩
    apply Y0;refine Cf ?_;refine Ys<|Ac<|Ac ?_
    refine Dr [[],[],[(54,1)],[(53,0),(55,2)],[(56,3)],[],[],[(58,5),(59,6)],[(60,7)],[(61,8)],[],[],[(63,10),(64,11)],[(65,12)],[(66,13)],[(62,9),(67,14)],[(68,15)],[(57,4),(69,16)]] [[],[],[1],[0,1,2],[0,1,2,3],[0,1,2,3,4],[0,1,2,3,4],[0,1,2,3,4,5,6],[0,1,2,3,4,5,6,7],[0,1,2,3,4,5,6,7,8],[0,1,2,3,4],[0,1,2,3,4],[0,1,2,3,4,10,11],[0,1,2,3,4,10,11,12],[0,1,2,3,4,10,11,12,13],[0,1,2,3,4,5,6,7,8,9,10,11,12,13,14],[0,1,2,3,4,5,6,7,8,9,10,11,12,13,14,15],[0,1,2,3,4,5,6,7,8,9,10,11,12,13,14,15,16]] ?_
    refine Xq Af ?_;refine Xq Af ?_;refine Xq AH ?_;refine Xq Am ?_;refine Xq Af ?_;refine Xs ?_;refine Xs ?_;refine Xs ?_;refine Xs ?_;refine Xs ?_;refine Xs ?_;refine Xs ?_;refine Xs ?_;refine Xs ?_;refine Xs ?_;refine Xs ?_;refine Xs ?_;refine Xq AP ?_;refine ⟨_,rfl,?_⟩
    apply Y0;refine Ct ?_;refine Y1<|Wm<|Wm<|Wm ?_;refine Wq Az ?_;refine Wq AA ?_;refine Wq (By (ao rfl) (Ad rfl) (Ad rfl) rfl rfl rfl rfl rfl) ?_;(refine Ap ?_);refine Wa<|Y0<|Y1<|Wm ?_;refine Wq AR ?_;refine Wa<|Y0 ?_;apply AZ;apply AE;apply AF
    refine ALoop.next ((P.length - i)+(Q.length - (k+1))) (by omega) ⟨i,k+1,R ++ [AQ Q k],by omega,by omega,?_,by simp;omega,rfl,rfl⟩ ?_
    ·rw [hdQ,hp,EY] at heq
     rw [← heq,hp,EY];simp
    ·exact Aq (by exact Yd<|Yd<|FrLe.cons rfl (AVle.own rfl)<|Yd<|Yd<|FrLe.nil) (by refine HpLe.cons (Cp (Dn Iy R (AQ Q k))) ?_;exact HpLe.nil)
   ·refine Ac<|Y1<|Wm<|Wm ?_;refine Wq AH ?_;refine Wq Ak ?_;refine Wm ?_;refine Wg Af ?_;refine Wg Af ?_;refine Wg AH ?_;refine Wg Ak ?_;refine Wq AD ?_;apply Y0;refine Cf ?_;apply AZ;apply AE;apply AM;apply AF;refine Yn<|Y1<|Wm<|Wa<|Y0 ?_;apply As
    have hq:Q.drop k = []:=List.drop_eq_nil_of_le (by omega)
    exact Bd (Rets.of1 (ResV.tmp rfl rfl) (Bc (by rw [← heq,hp,hq,EY,List.append_nil];rfl)))
theorem QJ (c : Rat) (m:Nat→Int) (P:List Tm) (hc:c = 0):Abs Tryz.prog 73 [BF (BH c),BF (Cd m),Bi P] (Da [Bi [],ex (.int .i64 0)]):=by
 have hs:=CT.2 hc
 refine Ab Tryz.func73 fun s0=>?_
 rw [Tryz.ntmps73]
 apply Y1;refine Bx ?_;refine Bx ?_;refine Wa<|Wa<|Y0<|Y1 ?_;refine EA (Ad rfl) (Ad rfl) rfl rfl rfl rfl rfl ?_;refine Wa<|Y0<|Ac<|Y1 ?_;refine Wq Ar ?_;refine Wq (Ag (Ex c)) ?_;refine Wq Am ?_;apply Y0;refine Ct ?_;refine Y1<|Wa<|Wa<|Y0 ?_;apply As;apply AJ
 exact Bd (Co (ResV.tmp rfl rfl) (ResV.tmp rfl rfl) (BW (Fk) (D.le.refl _)))
theorem Mp (c : Rat) (m:Nat→Int) (P:List Tm) (N M:Nat) (hc:c ≠ 0) (hcs:RSz c N) (hm:In8 m 0 65535) (hP:PSz P M) (hPi:PIn P 0 65535) (hmP:∀ t∈P,In8 (AU m t.m) 0 65535) (hn:P.length≤100000) (hNM:N+M≤4398046511103):Abs Tryz.prog 73 [BF (BH c),BF (Cd m),Bi P] (Da [Bi (MS c m P),ex (.int .i64 0)]):=by
 have hs:c.num.sign ≠ 0:=fun e=>hc (CT.1 e)
 refine Ab Tryz.func73 fun s0=>?_
 rw [Tryz.ntmps73]
 apply Y1;refine Bx ?_;refine Bx ?_;refine Wa<|Wa<|Y0<|Y1 ?_;refine EA (Ad rfl) (Ad rfl) rfl rfl rfl rfl rfl ?_;refine Wa<|Y0<|Ac<|Y1 ?_;refine Wq Ar ?_;refine Wq (Ag (Ex c)) ?_;refine Wq Ak ?_;apply Y0;refine Cf ?_;refine Ys<|Ac<|Y1<|Wa<|Y0<|AWp.block ?_
 refine Ba (fun mz σ=>∃ k,k≤P.length∧mz = P.length - k∧σ = ⟨[(2,.d (Bi P)),(3,.ptr 0 0),(4,.ptr 1 0),(8,.own 2),(9,.d (ex (.int .i64 (k:Nat))))],[.var 54 ((BH c).map .d),.var 70 ((Cd m).map .d),.row 72 12 ((MS c m (P.take k)).map Iy)]⟩) ?le ⟨0,by omega,rfl,rfl⟩ ?round
 case le=>exact Aq (by exact Yd<|Yp<|Yp<|FrLe.cons rfl (AVle.own rfl)<|Yd<|FrLe.nil) (by exact Yv<|Yv<|Yr<|HpLe.nil)
 case round =>
  rintro mz _ ⟨k,hk,rfl,rfl⟩
  by_cases hlt:k<P.length
  ·have ht:=Dc hlt
   have htk:=Fo hlt
   refine Ac<|Y1<|Wm<|Wm ?_;refine Wq AH ?_;refine Wq Am ?_;apply Y0;refine Ct ?_;refine Ys<|Ac<|AWp.block<|Ac ?_
   refine Hc (En (e:=9) (by kernel_rfl) (K4 (K4 (AddE.keep (AddE.keep (AddE.keep (AddE.add (AddE.keep AddE.nil))))))) (by kernel_rfl)) [[],[],[],[(24,1),(25,2)],[(26,3)],[(27,4)],[(23,0),(28,5)],[(29,6)],[(22,7)],[(22,7)],[]] [[],[],[],[1,2],[1,2,3],[1,2,3,4],[0,1,2,3,4,5],[0,1,2,3,4,5,6],[0,1,2,3,4,5,6,7],[0,1,2,3,4,5,6,7],[]] rfl (by kernel_rfl) (by kernel_rfl) (by kernel_rfl) ?_
   refine Xq Ar ?_;refine Xq Af ?_;refine Xq Af ?_;refine Xq Az ?_;refine Xq Bb ?_;refine Xq AA ?_;refine Xq (Ag (Vp m (AQ P k).m hm (hPi _ ht) (hmP _ ht))) ?_;refine Xq Af ?_;refine Xq Bl ?_;refine Xq Bl ?_;refine Xn ?_;refine ⟨_,rfl,?_⟩
   refine Sf ?_;refine Wa ?_;apply AWl.nil;apply OnlyN.mk';refine Yn<|Ac<|Y1<|Wm ?_;refine Wq Ak ?_;apply Y0;refine Cf ?_;apply Ys
   refine Dr [[],[],[],[],[(36,2),(37,3)],[(38,4)],[(39,5)],[(35,1),(40,6)],[],[(41,7),(42,8)],[(43,9)]] [[],[],[],[],[2,3],[2,3,4],[2,3,4,5],[1,2,3,4,5,6],[],[1,2,3,4,5,6,7,8],[1,2,3,4,5,6,7,8,9]] ?_
   refine Xq Af ?_;refine Xq Ar ?_;refine Xq Af ?_;refine Xq Af ?_;refine Xq Az ?_;refine Xq Bb ?_;refine Xq CY ?_;refine Xq (Ag (Ms c (AQ P k).c N M hcs (hP _ ht) hNM)) ?_;refine Xq Ar ?_;(refine Hq rfl ?_;refine BO (Ad rfl) rfl rfl rfl ?_;(repeat ((first | refine ⟨_,AK (ah rfl),?_⟩ | refine ⟨_,Po rfl,?_⟩);refine ⟨_,rfl,?_⟩));refine ⟨_,rfl,?_⟩;refine ⟨_,rfl,?_⟩);(refine Xq (By (ah rfl) (Ad rfl) (Ad rfl) rfl rfl rfl rfl rfl) ?_);refine ⟨_,rfl,?_⟩
   (refine Ap ?_);refine Wa ?_;apply AWl.nil;apply Ai;refine Yn<|AWp.region<|Wm ?_;refine Wq AR ?_;refine Wa ?_;apply AWl.nil
   refine ALoop.next (P.length - (k+1)) (by omega) ⟨k+1,by omega,rfl,rfl⟩ ?_
   exact Aq (by exact Yd<|Yp<|Yp<|FrLe.cons rfl (AVle.own rfl)<|Yd<|FrLe.nil) (by apply Yv;apply Yv;(refine HpLe.cons (Cp ((Dn Iy _ ⟨c*(AQ P k).c,AU m (AQ P k).m⟩).trans (by rw [← htk];simp [MS]))) ?_);exact HpLe.nil)
  ·obtain rfl : k = P.length := by omega
   refine Ac<|Y1<|Wm<|Wm ?_;refine Wq AH ?_;refine Wq Ak ?_;apply Y0;refine Cf ?_;apply AZ;apply AE;apply AM;apply AF;refine Yn<|Y1<|Wm<|Wa<|Wa<|Y0 ?_;apply As
   exact Bd (Co (ResV.tmp rfl rfl) (ResV.tmp rfl rfl) (BW (Bc (by rw [List.take_length];rfl)) (D.le.refl _)))
def Er (c : Rat) (P:List Tm):List Tm:=if c = 0 then [] else MS c (fun _=>0) P
theorem GV (c : Rat) (P:List Tm) (N M:Nat) (hcs:RSz c N) (hP:PSz P M) (hPi:PIn P 0 65535) (hn:P.length≤100000) (hNM:N+M≤4398046511103):Abs Tryz.prog 30 [BF (BH c),Bi P] (Bi (Er c P)):=by
 by_cases hc:c = 0
 ·refine Ab Tryz.func30 fun s0 => ?_
  rw [Tryz.ntmps30]
  apply Y1;refine Bx ?_;refine Wa<|Y0<|Y1 ?_;refine Wq Ar ?_;(refine Cz rfl rfl ?_;(refine FE (Ad rfl) (Ad rfl) rfl rfl ?_;(repeat ((first | refine ⟨_,AK (ao rfl),?_⟩ | refine ⟨_,Po rfl,?_⟩);refine ⟨_,rfl,?_⟩));refine ⟨_,rfl,?_⟩));refine Wm ?_;refine Wq (Ag (QJ c (fun _=>0) P hc)) ?_;refine Wm ?_;refine Wq Bl ?_;refine Wq Bl ?_;refine Wa<|Wa<|Y0<|Y1<|Wm<|Wa<|Y0 ?_;apply As
  exact Bd (Rets.of1 (ResV.tmp rfl rfl) (Do (by rw [Er,if_pos hc])))
 ·refine Ab Tryz.func30 fun s0 => ?_
  rw [Tryz.ntmps30]
  apply Y1;refine Bx ?_;refine Wa<|Y0<|Y1 ?_;refine Wq Ar ?_;(refine Cz rfl rfl ?_;(refine FE (Ad rfl) (Ad rfl) rfl rfl ?_;(repeat ((first | refine ⟨_,AK (ao rfl),?_⟩ | refine ⟨_,Po rfl,?_⟩);refine ⟨_,rfl,?_⟩));refine ⟨_,rfl,?_⟩));refine Wm ?_;refine Wq (Ag (Mp c (fun _=>0) P N M hc hcs In8.zero hP hPi (fun t ht=>by rw [HW];exact hPi t ht) hn hNM)) ?_;refine Wm ?_;refine Wq Bl ?_;refine Wq Bl ?_;refine Wa<|Wa<|Y0<|Y1<|Wm<|Wa<|Y0 ?_;apply As
  exact Bd (Rets.of1 (ResV.tmp rfl rfl) (Do (by rw [Er,if_neg hc])))
theorem SP {c : Rat} {m:Nat→Int} {P:List Tm} {N M:Nat} (hc:RSz c N) (hP:PSz P M):PSz (MS c m P) (N+M):=fun t ht=>by
 obtain ⟨s,hs,rfl⟩:=List.mem_map.1 ht
 exact hc.mul (hP s hs)
theorem Wy {c : Rat} {P:List Tm} {N M:Nat} (hc:RSz c N) (hP:PSz P M):PSz (Er c P) (N+M):=by
 unfold Er
 split
 ·intro t ht;cases ht
 ·exact SP hc hP
theorem PG (c : Rat) (P:List Tm):(Er c P).length≤P.length:=by
 unfold Er
 split <;> simp
theorem DO {x : Int} (h0:-1000≤x) (h1:x≤1000):RSz ((x:Int):Rat) 1:=by
 refine ⟨?_,?_⟩
 ·show (Ah (x:Int).natAbs).length≤1
  exact DY (by simp only [BB,Nat.pow_one];omega)
 ·show (Ah 1).length≤1
  exact DY (by simp only [BB,Nat.pow_one];omega)
theorem XN (P Q:List Tm) (N M:Nat) (hP:PSz P N) (hQ:PSz Q M) (hQi:PIn Q 0 65535) (hNM:N+M+2≤4398046511103) (hn:P.length+Q.length≤100000):Abs Tryz.prog 38 [Bi P,Bi Q] (Bi (CW P (Er (-1:Int) Q))):=by
 have h1:RSz ((-1:Int):Rat) 1:=DO (by omega) (by omega)
 have hl:=PG (-1:Int) Q
 refine Ab Tryz.func38 fun s0=>?_
 rw [Tryz.ntmps38]
 refine Y1<|Wa<|Y0<|Y1<|Wm ?_;refine Wq (Ag (Bu (-1) (by omega) (by omega))) ?_;refine Wm ?_;refine Wq (Ag (GV (-1:Int) Q 1 M h1 hQ hQi (by omega) (by omega))) ?_;refine Wq (Ag (Mt P (Er (-1:Int) Q) N (1+M) hP (Wy h1 hQ) (by omega) (by omega))) ?_;refine Wa<|Y0 ?_;apply As
 exact Yf
theorem Canon.nil : Canon []:=⟨List.Pairwise.nil,fun t h=>by cases h⟩
theorem Jy {t : Tm} (h:t.c ≠ 0):Canon [t]:=⟨List.pairwise_singleton _ _,fun u hu=>by rw [List.mem_singleton.1 hu];exact h⟩
theorem Ji {N M:Nat}:∀ {P Q:List Tm},PSz P N→PSz Q M→PSz (CW P Q) (N+M+1)
 | [],Q,_,h=>by simp only [CW];exact h.mono (by omega)
 | s :: P,[],h,_=>by simp only [CW];exact h.mono (by omega)
 | s :: P,t :: Q,hP,hQ=>by
  have hP':PSz P N:=fun u hu=>hP u (by simp [hu])
  have hQ':PSz Q M:=fun u hu=>hQ u (by simp [hu])
  have con:∀ {x:Tm} {L:List Tm},RSz x.c (N+M+1)→PSz L (N+M+1)→PSz (x :: L) (N+M+1):=fun h1 h2 u hu=>by
   rcases List.mem_cons.1 hu with rfl | hu
   ·exact h1
   ·exact h2 u hu
  rw [CW]
  split
  ·exact con ((hP s (by simp)).mono (by omega)) (Ji hP' hQ)
  ·split
   ·exact con ((hQ t (by simp)).mono (by omega)) (Ji hP hQ')
   ·split
    ·exact Ji hP' hQ'
    ·exact con ((hP s (by simp)).add (hQ t (by simp))) (Ji hP' hQ')
termination_by P Q => P.length+Q.length
theorem YV {P Q:List Tm} {a b:Int} (hP:PIn P a b) (hQ:PIn Q a b):PIn (CW P Q) a b:=fun u hu=>by
 rcases EZ P Q u hu with ⟨s,hs,e⟩ | ⟨s,hs,e⟩
 ·rw [← e];exact hP s hs
 ·rw [← e];exact hQ s hs
theorem SameL.symm : ∀ {P Q:List Tm},SameL P Q→SameL Q P
 | [],[],_=>trivial
 | _ :: _,_ :: _,h=>⟨h.1.symm,h.2.1.symm,SameL.symm h.2.2⟩
 | [],_ :: _,h=>h.elim
 | _ :: _,[],h=>h.elim
structure PB (P : List Tm) (n N:Nat) (d:Int):Prop where
 can:Canon P
 len:P.length≤n
 sz:PSz P N
 ex:PIn P 0 d
theorem PB.mono {P : List Tm} {n N n' N':Nat} {d d':Int} (h:PB P n N d) (h1:n≤n') (h2:N≤N') (h3:d≤d'):PB P n' N' d':=⟨h.can,Nat.le_trans h.len h1,h.sz.mono h2,h.ex.mono (Int.le_refl _) h3⟩
theorem PB.nil {n N:Nat} {d:Int}:PB [] n N d:=⟨Canon.nil,Nat.zero_le _,fun t h=>(by cases h),fun t h=>(by cases h)⟩
theorem PB.add {P Q:List Tm} {n N n' N':Nat} {d d':Int} (h:PB P n N d) (k:PB Q n' N' d'):PB (CW P Q) (n+n') (N+N'+1) (max d d') :=
 ⟨Eu h.can k.can,by have:=GJ P Q;have:=h.len;have:=k.len;omega,Ji h.sz k.sz,YV (h.ex.mono (Int.le_refl _) (by omega)) (k.ex.mono (Int.le_refl _) (by omega))⟩
def neg (P : List Tm):List Tm:=P.map (fT fun q=>-q)
theorem Tz {f : Tm→Tm} {P:List Tm} (h:Yk P) (hf:∀ s∈P,∀ t∈P,0<lx s.m t.m→0<lx (f s).m (f t).m):Yk (P.map f):=by
 refine List.pairwise_map.2 (List.Pairwise.imp_of_mem (fun {a b} ha hb hab=>hf a ha b hb hab) h)
theorem Us {P : List Tm} (h:Canon P):Canon (neg P):=⟨Tz h.1 fun _ _ _ _ h=>h,fun t ht=>by
 obtain ⟨s,hs,rfl⟩:=List.mem_map.1 ht
 intro e
 have e:-s.c = 0:=e
 exact h.2 s hs (by grind)⟩
theorem PB.neg {P : List Tm} {n N : Nat} {d : Int} (h : PB P n N d) : PB (neg P) n N d := ⟨Us h.can, by rw [Go.Proofs.YtnhgojfjmhjokaaGreat.neg, List.length_map]; exact h.len, fun t ht => by
 obtain ⟨s,hs,rfl⟩:=List.mem_map.1 ht
 exact (h.sz s hs).neg,fun t ht=>by
 obtain ⟨s,hs,rfl⟩:=List.mem_map.1 ht
 exact h.ex s hs⟩
theorem Tk (f : (Nat→Int)→Rat):∀ P:List Tm,Dm f (neg P) = -Dm f P
 | []=>by simp [neg,Dm]
 | t :: P=>by
  have:=Tk f P
  simp only [neg,List.map_cons,Dm,fT] at this ⊢
  rw [this];grind
def A0d (P Q:List Tm):List Tm:=CW P (neg Q)
theorem PB.sub {P Q:List Tm} {n N n' N':Nat} {d d':Int} (h:PB P n N d) (k:PB Q n' N' d'):PB (A0d P Q) (n+n') (N+N'+1) (max d d'):=h.add k.neg
theorem RB {a b:Rat} (ha:a ≠ 0) (hb:b ≠ 0):a*b ≠ 0:=fun e=>by
 rcases Rat.mul_eq_zero.1 e with h | h
 ·exact ha h
 ·exact hb h
theorem TT {c : Rat} {m:Nat→Int} {P:List Tm} (hc:c ≠ 0) (h:Canon P):Canon (MS c m P):=⟨Tz h.1 fun s _ t _ h=>by
 show 0<lx (AU m s.m) (AU m t.m)
 rwa [NI m,NI m,A0k],fun t ht=>by
 obtain ⟨s,hs,rfl⟩:=List.mem_map.1 ht
 exact RB hc (h.2 s hs)⟩
theorem TB {a b:Nat→Int} {d e:Int} (ha:In8 a 0 d) (hb:In8 b 0 e):In8 (AU a b) 0 (d+e):=fun i hi=>by
 have:=ha i hi
 have:=hb i hi
 simp only [AU]
 omega
theorem Rm {t : Tm} {P:List Tm} {n N N0:Nat} {d d0:Int} (h:PB P n N d) (hc:t.c ≠ 0) (hs:RSz t.c N0) (hm:In8 t.m 0 d0):PB (MS t.c t.m P) n (N0+N) (d0+d) :=
 ⟨TT hc h.can, by rw [Rn]; exact h.len, SP hs h.sz, fun u hu => by
  obtain ⟨s,hs,rfl⟩:=List.mem_map.1 hu
  exact TB hm (h.ex s hs)⟩
def Ir (A P Q:List Tm):List Tm:=P.foldl (fun a s=>CW a (MS s.c s.m Q)) A
def EP (P Q:List Tm):List Tm:=Ir [] P Q
theorem LD {Q : List Tm} {n' N' N:Nat} {d d':Int} (hQ:PB Q n' N' d'):∀ {P A:List Tm} {k K:Nat},(∀ t∈P,t.c ≠ 0)→PSz P N→PIn P 0 d→PB A k K (d+d')→PB (Ir A P Q) (k+P.length*n') (K+P.length*(N+N'+1)) (d+d')
 | [],A,k,K,_,_,_,h=>by simpa [Ir] using h
 | t :: P,A,k,K,h1,h2,h3,h=>by
  have ht:=Rm (t:=t) (d0:=d) hQ (h1 t (by simp)) (h2 t (by simp)) (h3 t (by simp))
  have h4:PB (CW A (MS t.c t.m Q)) (k+n') (K+(N+N'+1)) (d+d'):=(h.add ht).mono (Nat.le_refl _) (by omega) (by omega)
  have:=LD hQ (P:=P) (fun u hu=>h1 u (by simp [hu])) (fun u hu=>h2 u (by simp [hu])) (fun u hu=>h3 u (by simp [hu])) h4
  refine this.mono ?_ ?_ (Int.le_refl _)
  ·rw [List.length_cons,Nat.succ_mul];omega
  ·rw [List.length_cons,Nat.succ_mul];omega
theorem Nn {Q : List Tm}:∀ {P A:List Tm},Sim (Ir A P Q) (A ++ Hk P Q)
 | [],A=>by simp only [Ir,Hk,List.foldl_nil,List.flatMap_nil,List.append_nil];exact Sim.refl _
 | t :: P,A=>by
  refine (Nn (P:=P) (A:=CW A (MS t.c t.m Q))).trans ?_
  refine ((GI _ _).append (Sim.refl _)).trans ?_
  simp only [Hk,List.flatMap_cons,MS,List.append_assoc]
  exact Sim.refl _
theorem Lx (P Q:List Tm):Sim (EP P Q) (Hk P Q):=Nn
theorem PB.mul {P Q:List Tm} {n N n' N':Nat} {d d':Int} (h:PB P n N d) (k:PB Q n' N' d') (h0:0≤d) (h0':0≤d'):PB (EP P Q) (n*n') (n*(N+N'+1)) (d+d'):=by
 have:=LD (A:=[]) (k:=0) (K:=0) (d:=d) k h.can.2 h.sz h.ex PB.nil
 refine this.mono ?_ ?_ (Int.le_refl _)
 ·rw [Nat.zero_add];exact Nat.mul_le_mul_right _ h.len
 ·rw [Nat.zero_add];exact Nat.mul_le_mul_right _ h.len
theorem PP {P Q:List Tm} (hP:Canon P) (hQ:Canon Q) (h:Sim P Q):Bi P = Bi Q:=Um (Fd hP hQ h)
theorem PB.same {P Q:List Tm} {n N:Nat} {d:Int} (h:PB P n N d) (hs:SameL P Q):PB Q n N d:=by
 have key:∀ {P Q:List Tm},SameL P Q→∀ t∈Q,∃ s∈P,s.c = t.c∧Eqv s.m t.m:=by
  intro P
  induction P with
  | nil=>intro Q h t ht;cases Q with
   | nil=>cases ht
   | cons=>exact h.elim
  | cons s P ih=>intro Q h t ht;cases Q with
   | nil=>exact h.elim
   | cons u Q =>
    rcases List.mem_cons.1 ht with rfl | ht
    ·exact ⟨s,by simp,h.1,h.2.1⟩
    ·obtain ⟨x,hx,e⟩:=ih h.2.2 t ht
     exact ⟨x,by simp [hx],e⟩
 have dec:∀ {P Q:List Tm},SameL P Q→Yk P→Yk Q:=by
  intro P
  induction P with
  | nil=>intro Q h _;cases Q with
   | nil=>exact List.Pairwise.nil
   | cons=>exact h.elim
  | cons s P ih=>intro Q h hd;cases Q with
   | nil=>exact h.elim
   | cons u Q =>
    have hd:=List.pairwise_cons.1 hd
    refine List.pairwise_cons.2 ⟨fun t ht=>?_,ih h.2.2 hd.2⟩
    obtain ⟨x,hx,_,e⟩:=key h.2.2 t ht
    rw [← Qb h.2.1 e]
    exact hd.1 x hx
 refine ⟨⟨dec hs h.can.1,fun t ht=>?_⟩,by rw [← hs.length];exact h.len,fun t ht=>?_,fun t ht=>?_⟩
 ·obtain ⟨s,hs,e,_⟩:=key hs t ht
  rw [← e];exact h.can.2 s hs
 ·obtain ⟨s,hs,e,_⟩:=key hs t ht
  rw [← e];exact h.sz s hs
 ·obtain ⟨s,hs,_,e⟩:=key hs t ht
  intro i hi
  rw [← e i hi];exact h.ex s hs i hi
theorem ND {c : Rat} {N:Nat} (h:RSz c N) {d:Int} (hd:0≤d):PB (Dl c) 1 N d:=by
 unfold Dl
 split
 ·exact PB.nil
 ·rename_i hc
  refine ⟨Jy hc,by simp,fun t ht=>by rw [List.mem_singleton.1 ht];exact h,fun t ht=>by rw [List.mem_singleton.1 ht];exact fun i hi=>⟨Int.le_refl _,hd⟩⟩
theorem GC {t : Tm} {N:Nat} {d:Int} (h:t.c ≠ 0) (hs:RSz t.c N) (hm:In8 t.m 0 d):PB [t] 1 N d:=⟨Jy h,by simp,fun u hu=>by rw [List.mem_singleton.1 hu];exact hs,fun u hu=>by rw [List.mem_singleton.1 hu];exact hm⟩
theorem Ho {i : Nat}:In8 (Gi i) 0 1:=fun j _=>by
 unfold Gi TZ
 split
 ·omega
 ·exact ⟨Int.le_refl _,(by show (0:Int)≤1;omega)⟩
theorem RI {P Q A:List Tm} {k:Nat} (h:k<P.length):Ir A (P.take (k+1)) Q = CW (Ir A (P.take k) Q) (MS (AQ P k).c (AQ P k).m Q):=Nx (fun a s=>CW a (MS s.c s.m Q)) A h
theorem MG {P Q:List Tm} {n N n' N':Nat} {d d':Int} (h:PB P n N d) (hQ:PB Q n' N' d') (h0:0≤d) (h0':0≤d') (k:Nat):PB (Ir [] (P.take k) Q) (n*n') (n*(N+N'+1)) (d+d'):=by
 have:=LD (A:=[]) (k:=0) (K:=0) (d:=d) (P:=P.take k) hQ (fun t ht=>h.can.2 t (List.mem_of_mem_take ht)) (fun t ht=>h.sz t (List.mem_of_mem_take ht)) (fun t ht=>h.ex t (List.mem_of_mem_take ht)) PB.nil
 have hl:(P.take k).length≤n:=Nat.le_trans (by rw [List.length_take];omega) h.len
 refine this.mono ?_ ?_ (Int.le_refl _)
 ·rw [Nat.zero_add];exact Nat.mul_le_mul_right _ hl
 ·rw [Nat.zero_add];exact Nat.mul_le_mul_right _ hl
theorem XO {P Q:List Tm} {n N n' N':Nat} {d d':Int} (hP:PB P n N d) (hQ:PB Q n' N' d') (h0:0≤d) (h0':0≤d') (hd:d+d'≤65535) (hn0:n≤100000) (hn:n*n'+n'≤100000) (hN:n*(N+N'+1)+N+N'+1≤4398046511102):Abs Tryz.prog 48 [Bi P,Bi Q] (Da [Bi (EP P Q),ex (.int .i64 0)]):=by
 have hPl:=hP.len
 have hQl:=hQ.len
 refine Ab Tryz.func48 fun s0=>?_
 rw [Tryz.ntmps48]
 repeat (first | apply Ac | apply AWp.region | (apply A1o;refine EA (Ad rfl) (Ad rfl) rfl rfl rfl rfl rfl ?_) | (refine Cz rfl rfl ?_;(apply Ij;refine ⟨_,Fj (ao rfl),?_⟩)) | apply AWl.nil | apply Yn | apply AWp.block)
 refine Ba (fun mz σ=>∃ k,k≤P.length∧mz = P.length - k∧σ = ⟨[(0,.d (Bi P)),(1,.d (Bi Q)),(6,.d (Bi (Ir [] (P.take k) Q))),(7,.d (ex (.int .i64 (k:Nat))))],[]⟩) ?le ⟨0,by omega,rfl,rfl⟩ ?round
 case le=>exact Aq (by repeat (first | exact FrLe.nil | refine Yd ?_ | refine FrLe.cons rfl (Ik rfl (D.le.refl _)) ?_)) (by repeat (exact HpLe.nil))
 case round =>
  rintro mz _ ⟨k,hk,rfl,rfl⟩
  by_cases hlt:k<P.length
  ·have ht:=Dc hlt
   have hm:=hP.ex _ ht
   have hb:=MG hP hQ h0 h0' k
   have hbl:=hb.len
   have ht2:=Rm (t:=AQ P k) hQ (hP.can.2 _ ht) (hP.sz _ ht) hm
   have ht2l:=ht2.len
   repeat (first | apply Ac | apply AWp.region | (refine Cz rfl rfl ?_;first | (apply KT;refine ⟨_,GW (ao rfl),?_⟩) | (apply Yh;refine ⟨_,Ju rfl (Ad rfl),?_⟩) | (apply SA;refine ⟨_,TF rfl (ao rfl) (ao rfl) (by first | (simp only [EQ,List.length_cons,List.length_nil];omega) | (simp [EQ];done) | (simp [EQ];omega)),?_⟩)) | apply AWl.nil | apply Yn | apply AWp.block | apply BA | (apply Pq;refine Ct ?_))
   refine Hc (En (e:=14) (by kernel_rfl) (K4 (K4 (K4 (AddE.keep (AddE.keep (AddE.keep (AddE.add (AddE.keep AddE.nil)))))))) (by kernel_rfl)) [[],[],[(18,0),(19,1)],[(20,2)],[(21,3)],[],[],[(23,5),(24,6)],[(25,7)],[(26,8)],[],[(22,4),(27,9),(28,10)],[(29,11)],[(17,12)],[(17,12)]] [[],[],[0,1],[0,1,2],[0,1,2,3],[],[],[5,6],[5,6,7],[5,6,7,8],[],[0,1,2,3,4,5,6,7,8,9,10],[0,1,2,3,4,5,6,7,8,9,10,11],[0,1,2,3,4,5,6,7,8,9,10,11,12],[0,1,2,3,4,5,6,7,8,9,10,11,12]] rfl (by kernel_rfl) (by kernel_rfl) (by kernel_rfl) ?_
   repeat (first | refine ⟨_,rfl,?_⟩ | (apply ZE;(refine Xq (GW (ah rfl)) ?_)) | (apply ZF;first | (refine Xq (NQ (ah rfl) (Ad rfl) rfl rfl) ?_) | (refine Xq (XX (ah rfl) (Ad rfl) rfl rfl) ?_)) | (apply Pp;(refine Xq (TE (ah rfl) (Ad rfl) rfl (Ad rfl) rfl rfl) ?_)) | (apply Pn;(refine Xq (DK rfl (ah rfl) (Ad rfl) (Ad rfl) rfl (by first | omega | (simp;omega))) ?_)) | (apply A0P;(refine Xq (Sw (ah rfl) rfl) ?_)) | (apply Yi;(refine Xq (KR (ah rfl) (Mp (AQ P k).c (AQ P k).m Q N N' (hP.can.2 _ ht) (hP.sz _ ht) (hm.mono (Int.le_refl _) (by omega)) hQ.sz (hQ.ex.mono (Int.le_refl _) (by omega)) (fun t h=>(TB hm (hQ.ex t h)).mono (Int.le_refl _) hd) (by omega) (by omega)) (by first | ((repeat (first | exact ArgsLe.nil | refine ArgsLe.cons rfl (D.le.refl _) ?_ | refine ArgsLe.cons rfl Eo ?_));done) | fail)) ?_)))
   repeat (first | apply Ac | apply AWp.region | (refine Cz rfl rfl ?_;first | (apply KT;refine ⟨_,GW (ao rfl),?_⟩) | (apply Ij;refine ⟨_,Fj (ao rfl),?_⟩) | (apply A0N;refine ⟨_,TD (ao rfl) (ao rfl) (by omega),?_⟩) | (apply SA;refine ⟨_,Pi rfl (ao rfl) (ao rfl) (by first | (simp only [EQ,List.length_cons,List.length_nil];omega) | (simp [EQ];done) | (simp [EQ];omega)),?_⟩) | (apply Rc;refine ⟨_,KR (ao rfl) (Mt (Ir [] (P.take k) Q) (MS (AQ P k).c (AQ P k).m Q) (n*(N+N'+1)) (N+N') hb.sz ht2.sz (by omega) (by omega)) (by first | ((repeat (first | exact ArgsLe.nil | refine ArgsLe.cons rfl (D.le.refl _) ?_ | refine ArgsLe.cons rfl Eo ?_));done) | fail),?_⟩)) | apply OnlyN.mk' | apply AWl.nil | apply Yn | apply BA | apply Ai | (apply Pq;refine Cf ?_))
   refine ALoop.next (P.length - (k+1)) (by omega) ⟨k+1,by omega,rfl,rfl⟩ ?_
   exact Aq (by repeat (first | exact FrLe.nil | refine Yd ?_ | refine FrLe.cons rfl (AVle.le (Do (RI hlt).symm)) ?_)) (by repeat (exact HpLe.nil))
  ·obtain rfl : k = P.length := by omega
   repeat (first | apply Ac | apply AWp.region | (refine Cz rfl rfl ?_;first | (apply KT;refine ⟨_,GW (ao rfl),?_⟩) | (apply Ij;refine ⟨_,Fj (ao rfl),?_⟩) | (apply Yh;refine ⟨_,Ju rfl (Ad rfl),?_⟩) | (apply SA;refine ⟨_,Pi rfl (ao rfl) (ao rfl) (by first | (simp only [EQ,List.length_cons,List.length_nil];omega) | (simp [EQ];done) | (simp [EQ];omega)),?_⟩)) | apply AWl.nil | apply Yn | apply AZ | apply As | apply AE | apply AF | apply AM | (apply Pq;refine Cf ?_))
   exact Bd (Co (ResV.tmp rfl rfl) (ResV.tmp rfl rfl) (BW (Do (by rw [List.take_length];rfl)) (D.le.refl _)))
theorem OW {P Q:List Tm} {n N n' N':Nat} {d d':Int} (hP:PB P n N d) (hQ:PB Q n' N' d') (h0:0≤d) (h0':0≤d') (hd:d+d'≤65535) (hn0:n≤100000) (hn:n*n'+n'≤100000) (hN:n*(N+N'+1)+N+N'+1≤4398046511102):Abs Tryz.prog 33 [Bi P,Bi Q] (Bi (EP P Q)):=by
 refine Ab Tryz.func33 fun s0=>?_
 rw [Tryz.ntmps33]
 repeat (first | apply Ac | apply AWp.region | (refine Cz rfl rfl ?_;first | (apply KT;refine ⟨_,GW (ao rfl),?_⟩) | (apply Ij;refine ⟨_,Fj (ao rfl),?_⟩) | (apply A0M;refine ⟨_,Sw (ao rfl) rfl,?_⟩) | (apply Rc;refine ⟨_,KR (ao rfl) (XO hP hQ h0 h0' hd hn0 hn hN) (by first | ((repeat (first | exact ArgsLe.nil | refine ArgsLe.cons rfl (D.le.refl _) ?_ | refine ArgsLe.cons rfl Eo ?_));done) | fail),?_⟩)) | apply AWl.nil | apply Yn | apply As)
 exact Yf
theorem Abs.le {P : Program} {f:FuncId} {ds:List D} {r r':D} (h:Abs P f ds r) (hr:D.le r r'):Abs P f ds r' :=
 ⟨h.1,fun s vs h1 h2 h3=>(h.2 s vs h1 h2 h3).mono fun e w' ⟨v,he,s',hw,hl,hv⟩=>⟨v,he,s',hw,hl,hr _ _ hv⟩⟩
theorem Pk {P Q:List Tm} {n N n' N':Nat} {d d':Int} (hP:PB P n N d) (hQ:PB Q n' N' d') (h0:0≤d) (h0':0≤d') (hd:d+d'≤65535) (hn:n*n'≤100000) (hN:N+N'+1≤10000000):Abs Tryz.prog 45 [Bi P,Bi Q] (Da [Bi (EP P Q),ex (.int .i64 0)]) :=
 (Ya P Q N N' hP.sz hQ.sz d d' hP.ex hQ.ex hd h0 h0' (Nat.le_trans (Nat.mul_le_mul hP.len hQ.len) hn) hN).le fun s v hv=>by
  obtain ⟨S,⟨h1,h2,_⟩,h3⟩:=hv
  have h3:(Da [Bi S,ex (.int .i64 0)]).rel s v:=h3
  rwa [PP h1 (hP.mul hQ h0 h0').can (h2.trans (Lx P Q).symm)] at h3
theorem Jx {P Q:List Tm} {n N n' N':Nat} {d d':Int} (hP:PB P n N d) (hQ:PB Q n' N' d') (hn:n+n'≤100000) (hN:N+N'+1≤4398046511104):Abs Tryz.prog 47 [Bi P,Bi Q] (Bi (CW P Q)) :=
 Yb P Q N N' hP.sz hQ.sz hN (Nat.le_trans (Nat.add_le_add hP.len hQ.len) hn)
theorem KP {P Q:List Tm} {n N n' N':Nat} {d d':Int} (hP:PB P n N d) (hQ:PB Q n' N' d') (hn:n+n'≤100000) (hN:N+N'+1≤4398046511103):Abs Tryz.prog 29 [Bi P,Bi Q] (Bi (CW P Q)) :=
 Mt P Q N N' hP.sz hQ.sz hN (Nat.le_trans (Nat.add_le_add hP.len hQ.len) hn)
theorem PF {Q : List Tm} (hQ:Canon Q):SameL (Er (-1:Int) Q) (neg Q):=by
 rw [Er,if_neg (by decide)]
 induction Q with
 | nil=>trivial
 | cons t Q ih =>
  refine ⟨?_,fun i _=>?_,ih ⟨(List.pairwise_cons.1 hQ.1).2,fun u hu=>hQ.2 u (by simp [hu])⟩⟩
  ·show ((-1:Int):Rat)*t.c = -t.c
   have:((-1:Int):Rat) = -1:=rfl
   rw [this];grind
  ·show 0+t.m i = t.m i
   omega
theorem Zr {P Q:List Tm} {n N n' N':Nat} {d d':Int} (hP:PB P n N d) (hQ:PB Q n' N' d') (hd:d'≤65535) (hn:n+n'≤100000) (hN:N+N'+2≤4398046511103):Abs Tryz.prog 38 [Bi P,Bi Q] (Bi (A0d P Q)):=by
 have hs:=PF hQ.can
 have hc:=(hQ.neg.same hs.symm).can
 exact (XN P Q N N' hP.sz hQ.sz (hQ.ex.mono (Int.le_refl _) hd) hN (Nat.le_trans (Nat.add_le_add hP.len hQ.len) hn)).le (Bc (PP (Eu hP.can hc) (Eu hP.can hQ.neg.can) ((GI _ _).trans (((Sim.refl P).append hs.sim).trans (GI _ _).symm))))
theorem Mq {P Q:List Tm} (h:SameL P Q):Abs Tryz.prog 11 [Bi P,Bi Q] (ex (.bool true)):=by
 have:=Vx P Q
 rwa [IC.2 h] at this
theorem NL {P Q:List Tm} (hP:Canon P) (hQ:Canon Q) (h:Sim P Q):Abs Tryz.prog 11 [Bi P,Bi Q] (ex (.bool true)):=Mq (Fd hP hQ h)
theorem Sg {P : List Tm} {n N:Nat} {d:Int} (h:PB P n N d) (hd:d≤65535) (hN:N≤1000000000) (hn:n≤1000000):Abs Tryz.prog 22 [Bi P] (ex (.bool true)):=OV P N h.can (h.ex.mono (Int.le_refl _) hd) h.sz hN (Nat.le_trans h.len hn)
end Go.Proofs.YtnhgojfjmhjokaaGreat
