/- Part 17 of the proof of squaresValues_holds. No condition. -/
import Derived.Test.YtnhgojfjmhjokaaGreatSv2
import Derived.Test.YtnhgojfjmhjokaaGreatSv3
import Derived.Test.YtnhgojfjmhjokaaGreatSv9
import Derived.Test.YtnhgojfjmhjokaaGreatSv14
import Derived.Test.YtnhgojfjmhjokaaGreatSv15
import Derived.Test.YtnhgojfjmhjokaaGreatSv16
set_option linter.unusedSimpArgs false
set_option linter.unusedVariables false
set_option maxRecDepth 100000
set_option maxHeartbeats 1000000
namespace Go.Proofs.YtnhgojfjmhjokaaGreat
open Go.RowKit
theorem callFunc_run {P : Program} {f : FuncId} {fn : Func} (hf : P.funcs[f]? = some fn) (hn : (fn.name == "runtime.NumGoroutine") = false) (hb : fn.body.isNone = false) (args : Array Value) (w : World) : (callFunc f args).run P w = .ok (.enter f args) w := by
 have:(program).run P w = .ok P w:=rfl
 have hn' : ¬ fn.name = "runtime.NumGoroutine" := by simpa using hn
 have hb':¬ fn.body = none:=fun e=>by rw [e] at hb;cases hb
 simp [callFunc,this,hf,hn',hb']
theorem Abs.of_old {P : Program} {f:FuncId} {ds:List D} {r:D} (hcf:∀ args w,(callFunc f args).run P w = .ok (.enter f args) w) (h:∀ (s:GS) (vs:List Value),s.Ok→vs.length = ds.length→(∀ k,k<ds.length→(dAt ds k).rel s (vs.getD k undef)) →
  Calls P f vs.toArray s.w fun e w'=>∃ v,e = .returned v∧Ext s.w w'∧∀ s':GS,s'.w = w'→s'.Ok→(∀ b k,s.w.heap.size≤b→b<w'.heap.size→s'.S b k)→GS.Le s s'→r.rel s' v):Abs P f ds r:=by
 refine ⟨hcf,fun s vs hok hl hv=>(h s vs hok hl hv).mono fun e w' ⟨v,he,hE,hr⟩=>⟨v,he,s.grown w',rfl,GS.le_grown hE,?_⟩⟩
 exact hr _ rfl ((GS.le_grown hE).ok hok) (fun b k h1 h2=>.inr ⟨h1,h2⟩) (GS.le_grown hE)
theorem vs1 {vs : List Value} (h:vs.length = 1):vs = [vs.getD 0 undef]:=by
 match vs,h with
 | [a],_=>rfl
theorem vs2 {vs : List Value} (h:vs.length = 2):vs = [vs.getD 0 undef,vs.getD 1 undef]:=by
 match vs,h with
 | [a,b],_=>rfl
def wD (l : List Nat):D:=⟨fun s v=>(slD 139 1 (l.map fun x=>[ex (.int .u32 (x:Nat))])).rel s v∧Small l,fun h hc=>⟨(slD _ _ _).st h.1 hc,h.2⟩⟩
theorem wD_words {s : GS} {v:Value} {l:List Nat} (h:(wD l).rel s v):Words s.w v l:=by
 obtain ⟨⟨A,c,h1,h2,h3,h4⟩,hs⟩:=h
 simp only [List.length_map] at h1 h2 h4
 refine ⟨A,c,h1,h2,h3,hs,fun h0=>?_⟩
 obtain ⟨b,o,h5,h6⟩:=h4 h0
 obtain ⟨_,cs,fz,h7,h8⟩:=h6 0 h0
 refine ⟨b,o,cs,fz,h5,h7,fun i hi=>?_⟩
 obtain ⟨h9,cs',fz',h10,h11⟩:=h6 i hi
 rw [h7] at h10
 cases h10
 obtain ⟨_,u,h12,_,h13⟩:=h11 0 (by rw [h9];omega)
 have e:dAt ((l.map fun x=>[ex (.int .u32 (x:Nat))]).getD i []) 0 = ex (.int .u32 (l[i]:Nat)):=by simp [dAt,hi]
 rw [e] at h13
 have h13:u = _:=h13
 rw [Nat.mul_one,Nat.add_zero] at h12
 rw [h12,h13]
theorem words_wD {s : GS} {v:Value} {l:List Nat} (hok:s.Ok) (h:Words s.w v l):(wD l).rel s v:=by
 obtain ⟨A,c,h1,h2,h3,hs,h4⟩:=h
 refine ⟨⟨A,c,by rw [List.length_map];exact h1,by rw [List.length_map];exact h2,h3,fun h0=>?_⟩,hs⟩
 rw [List.length_map] at h0
 obtain ⟨b,o,cs,fz,h5,h6,h7⟩:=h4 h0
 refine ⟨b,o,h5,fun k hk=>?_⟩
 rw [List.length_map] at hk
 have e:(l.map fun x=>[ex (.int .u32 (x:Nat))]).getD k [] = [ex (.int .u32 (l[k]:Nat))]:=by simp [hk]
 rw [e]
 refine ⟨rfl,cs,fz,h6,fun j hj=>?_⟩
 obtain rfl:j = 0:=by simp at hj;omega
 rw [Nat.mul_one,Nat.add_zero]
 exact ⟨hok.safe b _ ⟨cs,fz,h6⟩,_,h7 k hk,rfl,rfl⟩
def intC (z : Int):List D:=[ex (.bool (decide (z<0))),wD (digs z.natAbs)]
def ratC (q : Rat):List D:=[ex (.bool (decide (q.num<0))),wD (digs q.num.natAbs),ex (.bool (decide ((q.den:Int)<0))),wD (digs (q.den:Int).natAbs)]
theorem wD_form {s : GS} {v:Value} {l:List Nat} (h:(wD l).rel s v):∃ A n c,v = .slice A n c:=by
 obtain ⟨A,c,h1,_⟩:=h.1
 exact ⟨A,_,c,h1⟩
theorem ag2 {s : GS} {v:Value} {d0 d1:D} (h:(agD [d0,d1]).rel s v):∃ u0 u1,v = .agg #[u0,u1]∧d0.rel s u0∧d1.rel s u1:=by
 obtain ⟨cs,rfl,h1,h2⟩:=h
 obtain ⟨u0,e0,_,r0⟩:=h2 0 (by simp)
 obtain ⟨u1,e1,_,r1⟩:=h2 1 (by simp)
 refine ⟨u0,u1,?_,r0,r1⟩
 congr 1
 refine Array.ext (by simpa using h1) fun i q1 q2=>?_
 simp at q2
 match i,q2 with
 | 0,_=>exact Option.some.inj ((Array.getElem?_eq_getElem q1).symm.trans e0)
 | 1,_=>exact Option.some.inj ((Array.getElem?_eq_getElem q1).symm.trans e1)
theorem ag4 {s : GS} {v:Value} {d0 d1 d2 d3:D} (h:(agD [d0,d1,d2,d3]).rel s v):∃ u0 u1 u2 u3,v = .agg #[u0,u1,u2,u3]∧d0.rel s u0∧d1.rel s u1∧d2.rel s u2∧d3.rel s u3:=by
 obtain ⟨cs,rfl,h1,h2⟩:=h
 obtain ⟨u0,e0,_,r0⟩:=h2 0 (by simp)
 obtain ⟨u1,e1,_,r1⟩:=h2 1 (by simp)
 obtain ⟨u2,e2,_,r2⟩:=h2 2 (by simp)
 obtain ⟨u3,e3,_,r3⟩:=h2 3 (by simp)
 refine ⟨u0,u1,u2,u3,?_,r0,r1,r2,r3⟩
 congr 1
 refine Array.ext (by simpa using h1) fun i q1 q2=>?_
 simp at q2
 match i,q2 with
 | 0,_=>exact Option.some.inj ((Array.getElem?_eq_getElem q1).symm.trans e0)
 | 1,_=>exact Option.some.inj ((Array.getElem?_eq_getElem q1).symm.trans e1)
 | 2,_=>exact Option.some.inj ((Array.getElem?_eq_getElem q1).symm.trans e2)
 | 3,_=>exact Option.some.inj ((Array.getElem?_eq_getElem q1).symm.trans e3)
theorem ag_ex {s : GS} {v:Value} {l:List Value} (h:(agD (l.map ex)).rel s v):v = .agg l.toArray:=by
 obtain ⟨cs,rfl,h1,h2⟩:=h
 congr 1
 refine Array.ext (by simpa using h1) fun i q1 q2=>?_
 simp at q2
 obtain ⟨u,e,_,r⟩:=h2 i (by simpa using q2)
 have e2:dAt (l.map ex) i = ex l[i]:=by simp [dAt,q2]
 rw [e2] at r
 have r:u = l[i]:=r
 rw [Array.getElem?_eq_getElem q1] at e
 rw [Option.some.inj e,r]
 simp
theorem ex_ag {s : GS} {l:List Value} (h:one1 l = true):(agD (l.map ex)).rel s (.agg l.toArray):=by
 refine ⟨_,rfl,by simp,fun k hk=>?_⟩
 simp at hk
 refine ⟨l[k],by simp [hk],List.all_eq_true.1 h _ (by simp),?_⟩
 have e2:dAt (l.map ex) k = ex l[k]:=by simp [dAt,hk]
 rw [e2]
 rfl
theorem ratC_open {s : GS} {v:Value} {q:Rat} (h:(agD (ratC q)).rel s v):∃ (b b':Bool) (A A':Option Addr) (n c n' c':Nat),v = .agg #[.bool b,.slice A n c,.bool b',.slice A' n' c']∧IsRat s.w (.bool b) (.slice A n c) (.bool b') (.slice A' n' c') q:=by
 obtain ⟨u0,u1,u2,u3,rfl,h0,h1,h2,h3⟩:=ag4 h
 obtain rfl:u0 = _:=h0
 obtain rfl:u2 = _:=h2
 obtain ⟨A,n,c,rfl⟩:=wD_form h1
 obtain ⟨A',n',c',rfl⟩:=wD_form h3
 exact ⟨_,_,A,A',n,c,n',c',rfl,⟨rfl,wD_words h1⟩,⟨rfl,wD_words h3⟩⟩
theorem ratC_mk {s : GS} {q:Rat} {b b':Bool} {A A':Option Addr} {n c n' c':Nat} (hok:s.Ok) (h:IsRat s.w (.bool b) (.slice A n c) (.bool b') (.slice A' n' c') q):(agD (ratC q)).rel s (.agg #[.bool b,.slice A n c,.bool b',.slice A' n' c']):=by
 obtain ⟨⟨h1,h2⟩,h3,h4⟩:=h
 refine ⟨_,rfl,rfl,fun k hk=>?_⟩
 have hk:k<4:=hk
 match k,hk with
 | 0,_=>exact ⟨_,rfl,rfl,h1⟩
 | 1,_=>exact ⟨_,rfl,rfl,words_wD hok h2⟩
 | 2,_=>exact ⟨_,rfl,rfl,h3⟩
 | 3,_=>exact ⟨_,rfl,rfl,words_wD hok h4⟩
theorem intC_open {s : GS} {v:Value} {z:Int} (h:(agD (intC z)).rel s v):∃ (b:Bool) (A:Option Addr) (n c:Nat),v = .agg #[.bool b,.slice A n c]∧IsInt s.w (.bool b) (.slice A n c) z:=by
 obtain ⟨u0,u1,rfl,h0,h1⟩:=ag2 h
 obtain rfl:u0 = _:=h0
 obtain ⟨A,n,c,rfl⟩:=wD_form h1
 exact ⟨_,A,n,c,rfl,rfl,wD_words h1⟩
theorem intC_mk {s : GS} {z:Int} {b:Bool} {A:Option Addr} {n c:Nat} (hok:s.Ok) (h:IsInt s.w (.bool b) (.slice A n c) z):(agD (intC z)).rel s (.agg #[.bool b,.slice A n c]):=by
 obtain ⟨h1,h2⟩:=h
 refine ⟨_,rfl,rfl,fun k hk=>?_⟩
 have hk:k<2:=hk
 match k,hk with
 | 0,_=>exact ⟨_,rfl,rfl,h1⟩
 | 1,_=>exact ⟨_,rfl,rfl,words_wD hok h2⟩
def monC (a : Nat→Int):List D:=[ex (.int .i64 (a 0)),ex (.int .i64 (a 1)),ex (.int .i64 (a 2)),ex (.int .i64 (a 3)),ex (.int .i64 (a 4)),ex (.int .i64 (a 5)),ex (.int .i64 (a 6)),ex (.int .i64 (a 7))]
theorem monC_open {s : GS} {v:Value} {a:Nat→Int} (h:(agD (monC a)).rel s v):v = .agg (c8 a):=ag_ex (l:=(c8 a).toList) h
theorem monC_mk {s : GS} (a:Nat→Int):(agD (monC a)).rel s (.agg (c8 a)):=ex_ag (l:=(c8 a).toList) rfl
theorem monC_at {a : Nat→Int} {i:Nat} (h:i<8):dAt (monC a) i = ex (.int .i64 (a i)):=by
 match i,h with
 | 0,_=>rfl
 | 1,_=>rfl
 | 2,_=>rfl
 | 3,_=>rfl
 | 4,_=>rfl
 | 5,_=>rfl
 | 6,_=>rfl
 | 7,_=>rfl
def tmC (t : Tm):List D:=ratC t.c ++ monC t.m
theorem ratC_length (q : Rat):(ratC q).length = 4:=rfl
theorem monC_length (a : Nat→Int):(monC a).length = 8:=rfl
theorem tmC_length (t : Tm):(tmC t).length = 12:=rfl
theorem tmC_drop (t : Tm):(tmC t).drop 4 = monC t.m:=rfl
theorem tmV_cells {s : GS} {cs:Array Value} {t:Tm} (hok:s.Ok) (h:TmV s.w cs t):∀ k,k<12→∃ u,cs[k]? = some u∧u.oneCell' = true∧(dAt (tmC t) k).rel s u:=by
 obtain ⟨b,b',A,A',n,c,n',c',rfl,⟨h1,h2⟩,h3,h4⟩:=h
 intro k hk
 match k,hk with
 | 0,_=>exact ⟨_,rfl,rfl,h1⟩
 | 1,_=>exact ⟨_,rfl,rfl,words_wD hok h2⟩
 | 2,_=>exact ⟨_,rfl,rfl,h3⟩
 | 3,_=>exact ⟨_,rfl,rfl,words_wD hok h4⟩
 | 4,_=>exact ⟨_,rfl,rfl,rfl⟩
 | 5,_=>exact ⟨_,rfl,rfl,rfl⟩
 | 6,_=>exact ⟨_,rfl,rfl,rfl⟩
 | 7,_=>exact ⟨_,rfl,rfl,rfl⟩
 | 8,_=>exact ⟨_,rfl,rfl,rfl⟩
 | 9,_=>exact ⟨_,rfl,rfl,rfl⟩
 | 10,_=>exact ⟨_,rfl,rfl,rfl⟩
 | 11,_=>exact ⟨_,rfl,rfl,rfl⟩
theorem cells_tmV {s : GS} {cs:Array Value} {t:Tm} (hsz:cs.size = 12) (h:∀ k,k<12→∃ u,cs[k]? = some u∧u.oneCell' = true∧(dAt (tmC t) k).rel s u):TmV s.w cs t:=by
 obtain ⟨u0,e0,_,r0⟩:=h 0 (by omega)
 obtain ⟨u1,e1,_,r1⟩:=h 1 (by omega)
 obtain ⟨u2,e2,_,r2⟩:=h 2 (by omega)
 obtain ⟨u3,e3,_,r3⟩:=h 3 (by omega)
 obtain rfl:u0 = _:=r0
 obtain rfl:u2 = _:=r2
 obtain ⟨A,n,c,rfl⟩:=wD_form r1
 obtain ⟨A',n',c',rfl⟩:=wD_form r3
 have hm:∀ i,i<8→cs[4+i]? = some (.int .i64 (t.m i)):=fun i hi=>by
  obtain ⟨u,e,_,r⟩:=h (4+i) (by omega)
  have e2:dAt (tmC t) (4+i) = ex (.int .i64 (t.m i)):=by rw [← monC_at hi,← tmC_drop,dAt_drop]
  rw [e2] at r
  rw [e]
  exact congrArg some r
 refine ⟨_,_,A,A',n,c,n',c',?_,⟨rfl,wD_words r1⟩,rfl,wD_words r3⟩
 refine Array.ext (by rw [hsz];rfl) fun i q1 q2=>?_
 rw [hsz] at q1
 refine Option.some.inj ?_
 rw [← Array.getElem?_eq_getElem,← Array.getElem?_eq_getElem]
 match i,q1 with
 | 0,_=>exact e0
 | 1,_=>exact e1
 | 2,_=>exact e2
 | 3,_=>exact e3
 | 4,_=>exact hm 0 (by omega)
 | 5,_=>exact hm 1 (by omega)
 | 6,_=>exact hm 2 (by omega)
 | 7,_=>exact hm 3 (by omega)
 | 8,_=>exact hm 4 (by omega)
 | 9,_=>exact hm 5 (by omega)
 | 10,_=>exact hm 6 (by omega)
 | 11,_=>exact hm 7 (by omega)
def polD (P : List Tm):D:=slD 72 12 (P.map tmC)
theorem polD_row {P : List Tm} {k:Nat} (h:k<P.length):(P.map tmC).getD k [] = tmC (tAt P k):=by simp [tAt,List.getD_eq_getElem?_getD,List.getElem?_eq_getElem h]
theorem polD_open {s : GS} {v:Value} {P:List Tm} (h:(polD P).rel s v):PolAt s.w v P:=by
 obtain ⟨A,c,h1,h2,h3,h4⟩:=h
 simp only [List.length_map] at h1 h2 h4
 refine ⟨A,c,h1,h2,h3,fun h0=>?_⟩
 obtain ⟨b,o,h5,h6⟩:=h4 h0
 obtain ⟨_,cs,fz,h7,h8⟩:=h6 0 h0
 refine ⟨b,o,cs,fz,h5,h7,fun k hk=>?_⟩
 obtain ⟨h9,cs',fz',h10,h11⟩:=h6 k hk
 rw [h7] at h10
 cases h10
 rw [polD_row hk] at h11
 refine ⟨cs.extract (o+k*12) (o+k*12+12),cells_tmV (s:=s) ?_ fun j hj=>?_,fun j hj=>?_⟩
 ·obtain ⟨_, u, e, _⟩ := h11 11 (by simp [tmC_length])
  have:=(Array.getElem?_eq_some_iff.1 e).1
  simp
  omega
 ·obtain ⟨_,u,e,r1,r2⟩:=h11 j hj
  exact ⟨u,by rw [Array.getElem?_extract,if_pos (by have:=(Array.getElem?_eq_some_iff.1 e).1;obtain ⟨_,u',e',_⟩:=h11 11 (by simp [tmC_length]);have:=(Array.getElem?_eq_some_iff.1 e').1;omega)];exact e,r1,r2⟩
 ·obtain ⟨_, u', e', _⟩ := h11 11 (by simp [tmC_length])
  have:=(Array.getElem?_eq_some_iff.1 e').1
  rw [Array.getElem?_extract,if_pos (by omega)]
theorem polD_mk {s : GS} {v:Value} {P:List Tm} (hok:s.Ok) (h:PolAt s.w v P) (hS:∀ b o,v = v→(∃ n c,v = .slice (some ⟨b,o,none⟩) n c)→∀ k,s.S b k):(polD P).rel s v:=by
 obtain ⟨A,c,h1,h2,h3,h4⟩:=h
 refine ⟨A,c,by rw [List.length_map];exact h1,by rw [List.length_map];exact h2,h3,fun h0=>?_⟩
 rw [List.length_map] at h0
 obtain ⟨b,o,cs,fz,h5,h6,h7⟩:=h4 h0
 subst h5
 refine ⟨b,o,rfl,fun k hk=>?_⟩
 rw [List.length_map] at hk
 rw [polD_row hk]
 refine ⟨rfl,cs,fz,h6,fun j hj=>⟨hS b o rfl ⟨_,_,h1⟩ _,?_⟩⟩
 obtain ⟨ts,h8,h9⟩:=h7 k hk
 obtain ⟨u,h10,h11,h12⟩:=tmV_cells hok h8 j hj
 exact ⟨u,(h9 j hj).trans h10,h11,h12⟩
theorem polD_own {w' : World} {v:Value} {P:List Tm} {W:Nat} (h:OwnP W w' v P) {s':GS} (hw:s'.w = w') (hok:s'.Ok) (hS:∀ b k,W≤b→b<w'.heap.size→s'.S b k):(polD P).rel s' v:=by
 subst hw
 refine polD_mk hok h.pol fun b o _ ⟨n,c,hv⟩ k=>?_
 obtain ⟨cl,h1,⟨h2,h3⟩,h4⟩:=h
 rcases h3 with ⟨e,_⟩ | ⟨g,cap,cur,e,h5,h6,_⟩
 ·rw [e] at hv;cases hv
 ·rw [e] at hv
  cases hv
  exact hS _ k h5 (lt_of_heap h6)
theorem monC_eqv {a b:Nat→Int} (h:Eqv a b):monC a = monC b:=by unfold monC;rw [h 0 (by omega),h 1 (by omega),h 2 (by omega),h 3 (by omega),h 4 (by omega),h 5 (by omega),h 6 (by omega),h 7 (by omega)]
theorem tmC_eq {s t:Tm} (h:s.c = t.c) (h':Eqv s.m t.m):tmC s = tmC t:=by unfold tmC;rw [h,monC_eqv h']
theorem polD_same {P Q:List Tm} (h:SameL P Q):polD P = polD Q:=by
 unfold polD
 congr 1
 induction P generalizing Q with
 | nil=>cases Q with
  | nil=>rfl
  | cons=>exact h.elim
 | cons s P ih=>cases Q with
  | nil=>exact h.elim
  | cons t Q=>rw [List.map_cons,List.map_cons,tmC_eq h.1 h.2.1,ih h.2.2]
theorem tup2 {s : GS} {u v:Value} {x y:D} (hx:x.rel s u) (hy:y.rel s v):(tupD [x,y]).rel s (.tuple #[u,v]):=⟨_,rfl,rfl,fun k hk=>by
 match k,hk with
 | 0,_=>exact ⟨_,rfl,hx⟩
 | 1,_=>exact ⟨_,rfl,hy⟩
 | k+2,hk=>exact absurd hk (by simp)⟩
theorem Mul_abs (p q:Rat) (N M:Nat) (hp:RSz p N) (hq:RSz q M) (hN:N+M≤4398046511104):Abs Tryz.prog 87 [agD (ratC p),agD (ratC q)] (agD (ratC (p*q))):=by
 refine Abs.of_old (callFunc_run Tryz.func87 (by kernel_rfl) (by kernel_rfl)) fun s vs hok hl hv=>?_
 rw [vs2 hl]
 obtain ⟨x0,x0',X0,X0',n0,c0,n0',c0',e0,h0⟩:=ratC_open (hv 0 (by simp))
 obtain ⟨x1,x1',X1,X1',n1,c1,n1',c1',e1,h1⟩:=ratC_open (hv 1 (by simp))
 rw [e0,e1]
 exact (Mul_any x0 x0' X0 X0' n0 c0 n0' c0' x1 x1' X1 X1' n1 c1 n1' c1' p q N M _ h0 h1 hp hq hN).mono fun e w' ⟨y,y',Y,Y',m,k,m',k',he,hI,hE⟩=>⟨_,he,hE,fun s' hw hok' _ _=>by subst hw;exact ratC_mk hok' hI⟩
theorem Add_abs (p q:Rat) (N M:Nat) (hp:RSz p N) (hq:RSz q M) (hN:N+M+1≤4398046511104):Abs Tryz.prog 113 [agD (ratC p),agD (ratC q)] (agD (ratC (p+q))):=by
 refine Abs.of_old (callFunc_run Tryz.func113 (by kernel_rfl) (by kernel_rfl)) fun s vs hok hl hv=>?_
 rw [vs2 hl]
 obtain ⟨x0,x0',X0,X0',n0,c0,n0',c0',e0,h0⟩:=ratC_open (hv 0 (by simp))
 obtain ⟨x1,x1',X1,X1',n1,c1,n1',c1',e1,h1⟩:=ratC_open (hv 1 (by simp))
 rw [e0,e1]
 exact (Add_any x0 x0' X0 X0' n0 c0 n0' c0' x1 x1' X1 X1' n1 c1 n1' c1' p q N M _ h0 h1 hp hq hN).mono fun e w' ⟨y,y',Y,Y',m,k,m',k',he,hI,hE⟩=>⟨_,he,hE,fun s' hw hok' _ _=>by subst hw;exact ratC_mk hok' hI⟩
theorem RMul_abs (p q:Rat) (N M:Nat) (hp:RSz p N) (hq:RSz q M) (hN:N+M≤4398046511103):Abs Tryz.prog 32 [agD (ratC p),agD (ratC q)] (agD (ratC (p*q))):=by
 refine Abs.of_old (callFunc_run Tryz.func32 (by kernel_rfl) (by kernel_rfl)) fun s vs hok hl hv=>?_
 rw [vs2 hl]
 obtain ⟨x0,x0',X0,X0',n0,c0,n0',c0',e0,h0⟩:=ratC_open (hv 0 (by simp))
 obtain ⟨x1,x1',X1,X1',n1,c1,n1',c1',e1,h1⟩:=ratC_open (hv 1 (by simp))
 rw [e0,e1]
 exact (RMul_any x0 x0' X0 X0' n0 c0 n0' c0' x1 x1' X1 X1' n1 c1 n1' c1' p q N M _ h0 h1 hp hq hN).mono fun e w' ⟨y,y',Y,Y',m,k,m',k',he,hI,hE⟩=>⟨_,he,hE,fun s' hw hok' _ _=>by subst hw;exact ratC_mk hok' hI⟩
theorem RAdd_abs (p q:Rat) (N M:Nat) (hp:RSz p N) (hq:RSz q M) (hN:N+M+1≤4398046511103):Abs Tryz.prog 31 [agD (ratC p),agD (ratC q)] (agD (ratC (p+q))):=by
 refine Abs.of_old (callFunc_run Tryz.func31 (by kernel_rfl) (by kernel_rfl)) fun s vs hok hl hv=>?_
 rw [vs2 hl]
 obtain ⟨x0,x0',X0,X0',n0,c0,n0',c0',e0,h0⟩:=ratC_open (hv 0 (by simp))
 obtain ⟨x1,x1',X1,X1',n1,c1,n1',c1',e1,h1⟩:=ratC_open (hv 1 (by simp))
 rw [e0,e1]
 exact (RAdd_any x0 x0' X0 X0' n0 c0 n0' c0' x1 x1' X1 X1' n1 c1 n1' c1' p q N M _ h0 h1 hp hq hN).mono fun e w' ⟨y,y',Y,Y',m,k,m',k',he,hI,hE⟩=>⟨_,he,hE,fun s' hw hok' _ _=>by subst hw;exact ratC_mk hok' hI⟩
theorem Sign_abs (p : Rat):Abs Tryz.prog 50 [agD (ratC p)] (ex (.int .i64 p.num.sign)):=by
 refine Abs.of_old (callFunc_run Tryz.func50 (by kernel_rfl) (by kernel_rfl)) fun s vs hok hl hv=>?_
 rw [vs1 hl]
 obtain ⟨x0,x0',X0,X0',n0,c0,n0',c0',e0,h0⟩:=ratC_open (hv 0 (by simp))
 rw [e0]
 exact (Sign_any x0 x0' X0 X0' n0 c0 n0' c0' p _ h0).mono fun e w' ⟨he,hE⟩=>⟨_,he,hE,fun s' hw hok' _ _=>rfl⟩
theorem RSign_abs (p : Rat):Abs Tryz.prog 23 [agD (ratC p)] (ex (.int .i64 p.num.sign)):=by
 refine Abs.of_old (callFunc_run Tryz.func23 (by kernel_rfl) (by kernel_rfl)) fun s vs hok hl hv=>?_
 rw [vs1 hl]
 obtain ⟨x0,x0',X0,X0',n0,c0,n0',c0',e0,h0⟩:=ratC_open (hv 0 (by simp))
 rw [e0]
 exact (RSign_any x0 x0' X0 X0' n0 c0 n0' c0' p _ h0).mono fun e w' ⟨he,hE⟩=>⟨_,he,hE,fun s' hw hok' _ _=>rfl⟩
theorem RWhole_abs (z : Int) (h0:-9223372036854775808≤z) (h1:z≤9223372036854775807):Abs Tryz.prog 28 [ex (.int .i64 z)] (agD (ratC (z:Rat))):=by
 refine Abs.of_old (callFunc_run Tryz.func28 (by kernel_rfl) (by kernel_rfl)) fun s vs hok hl hv=>?_
 rw [vs1 hl]
 have e0:vs.getD 0 undef = .int .i64 z:=hv 0 (by simp)
 rw [e0]
 exact (RWhole_any z _ h0 h1).mono fun e w' ⟨y,y',Y,Y',m,k,m',k',he,hI,hE⟩=>⟨_,he,hE,fun s' hw hok' _ _=>by subst hw;exact ratC_mk hok' hI⟩
theorem ISign_abs (z : Int):Abs Tryz.prog 65 [agD (intC z)] (ex (.int .i64 z.sign)):=by
 refine Abs.of_old (callFunc_run Tryz.func65 (by kernel_rfl) (by kernel_rfl)) fun s vs hok hl hv=>?_
 rw [vs1 hl]
 obtain ⟨x0,X0,n0,c0,e0,h0⟩:=intC_open (hv 0 (by simp))
 rw [e0]
 exact (Rsign_any x0 X0 n0 c0 z _ h0).mono fun e w' ⟨he,hE⟩=>⟨_,he,hE,fun s' hw hok' _ _=>rfl⟩
theorem IMul_abs (x y:Int) (hn:(digs x.natAbs).length≤4398046511104) (hn':(digs y.natAbs).length≤4398046511104):Abs Tryz.prog 76 [agD (intC x),agD (intC y)] (agD (intC (x*y))):=by
 refine Abs.of_old (callFunc_run Tryz.func76 (by kernel_rfl) (by kernel_rfl)) fun s vs hok hl hv=>?_
 rw [vs2 hl]
 obtain ⟨x0,X0,n0,c0,e0,h0⟩:=intC_open (hv 0 (by simp))
 obtain ⟨x1,X1,n1,c1,e1,h1⟩:=intC_open (hv 1 (by simp))
 rw [e0,e1]
 exact (Rmul_any x0 x1 X0 X1 n0 c0 n1 c1 x y _ h0 h1 hn hn').mono fun e w' ⟨y,Y,m,k,he,hI,hE⟩=>⟨_,he,hE,fun s' hw hok' _ _=>by subst hw;exact intC_mk hok' hI⟩
theorem RSameQ_abs (p q:Rat):Abs Tryz.prog 60 [agD (ratC p),agD (ratC q)] (ex (.bool (decide (p = q)))):=by
 refine Abs.of_old (callFunc_run Tryz.func60 (by kernel_rfl) (by kernel_rfl)) fun s vs hok hl hv=>?_
 rw [vs2 hl]
 obtain ⟨x0,x0',X0,X0',n0,c0,n0',c0',e0,h0⟩:=ratC_open (hv 0 (by simp))
 obtain ⟨x1,x1',X1,X1',n1,c1,n1',c1',e1,h1⟩:=ratC_open (hv 1 (by simp))
 rw [e0,e1]
 exact (RSameQ_any x0 x0' X0 X0' n0 c0 n0' c0' x1 x1' X1 X1' n1 c1 n1' c1' p q _ h0 h1).mono fun e w' ⟨he,hE⟩=>⟨_,he,hE,fun s' hw hok' _ _=>rfl⟩
theorem mCmp_abs (a b:Nat→Int):Abs Tryz.prog 118 [agD (monC a),agD (monC b)] (ex (.int .i64 (lex8 a b))):=by
 refine Abs.of_old (callFunc_run Tryz.func118 (by kernel_rfl) (by kernel_rfl)) fun s vs hok hl hv=>?_
 rw [vs2 hl]
 have e0:=monC_open (hv 0 (by simp))
 have e1:=monC_open (hv 1 (by simp))
 rw [e0,e1]
 exact (mCmp_any a b _).mono fun e w' ⟨he,hE⟩=>⟨_,he,hE,fun s' hw hok' _ _=>rfl⟩
theorem RmCmp_abs (a b:Nat→Int):Abs Tryz.prog 70 [agD (monC a),agD (monC b)] (ex (.int .i64 (lex8 a b))):=by
 refine Abs.of_old (callFunc_run Tryz.func70 (by kernel_rfl) (by kernel_rfl)) fun s vs hok hl hv=>?_
 rw [vs2 hl]
 have e0:=monC_open (hv 0 (by simp))
 have e1:=monC_open (hv 1 (by simp))
 rw [e0,e1]
 exact (RmCmp_any a b _).mono fun e w' ⟨he,hE⟩=>⟨_,he,hE,fun s' hw hok' _ _=>rfl⟩
theorem mMul_abs (a b:Nat→Int) (ha:In8 a 0 65535) (hb:In8 b 0 65535) (h:In8 (add8 a b) 0 65535):Abs Tryz.prog 85 [agD (monC a),agD (monC b)] (tupD [agD (monC (add8 a b)),ex (.int .i64 0)]):=by
 refine Abs.of_old (callFunc_run Tryz.func85 (by kernel_rfl) (by kernel_rfl)) fun s vs hok hl hv=>?_
 rw [vs2 hl]
 have e0:=monC_open (hv 0 (by simp))
 have e1:=monC_open (hv 1 (by simp))
 rw [e0,e1]
 exact (mMul_true a b _ ha hb h).mono fun e w' ⟨he,hE⟩=>⟨_,he,hE,fun s' hw hok' _ _=>tup2 (monC_mk _) rfl⟩
theorem RSame_abs (P Q:List Tm):Abs Tryz.prog 11 [polD P,polD Q] (ex (.bool (sameB P Q))):=by
 refine Abs.of_old (callFunc_run Tryz.func11 (by kernel_rfl) (by kernel_rfl)) fun s vs hok hl hv=>?_
 rw [vs2 hl]
 have h0:=polD_open (hv 0 (by simp))
 have h1:=polD_open (hv 1 (by simp))
 exact (RSame_any (vs.getD 0 undef) (vs.getD 1 undef) P Q _ h0 h1).mono fun e w' ⟨he,hE⟩=>⟨_,he,hE,fun s' hw hok' _ _=>rfl⟩
theorem PMul_abs (P Q:List Tm) (N M:Nat) (hP:PSz P N) (hQ:PSz Q M) (p q:Int) (hPi:PIn P 0 p) (hQi:PIn Q 0 q) (hpq:p+q≤65535) (hp0:0≤p) (hq0:0≤q) (hn:P.length*Q.length≤100000) (hNM:N+M+1≤10000000):Abs Tryz.prog 45 [polD P,polD Q] (someD (fun S=>Canon S∧Sim S (mulL P Q)∧PIn S 0 (p+q)∧PSz S (P.length*Q.length*(N+M+1))∧S.length≤P.length*Q.length) fun S=>tupD [polD S,ex (.int .i64 0)]):=by
 refine Abs.of_old (callFunc_run Tryz.func45 (by kernel_rfl) (by kernel_rfl)) fun s vs hok hl hv=>?_
 rw [vs2 hl]
 have h0:=polD_open (hv 0 (by simp))
 have h1:=polD_open (hv 1 (by simp))
 exact (PMul_any (vs.getD 0 undef) (vs.getD 1 undef) P Q _ h0 h1 N M hP hQ p q hPi hQi hpq hp0 hq0 hn hNM).mono fun e w' ⟨S,g1,g2,g3,g4,g5,A,c,he,hO,hE⟩=>⟨_,he,hE,fun s' hw hok' hS _=>⟨S,⟨g1,g2,g3,g4,g5⟩,tup2 (polD_own hO hw hok' hS) rfl⟩⟩
theorem dAt_map {l : List D} {k:Nat}:(l.map AV.d)[k]? = if k<l.length then some (.d (dAt l k)) else none:=by
 rw [List.getElem?_map]
 split
 ·rename_i h
  simp [dAt,h]
 ·rename_i h
  simp [List.getElem?_eq_none (Nat.le_of_not_lt h)]
section
variable {P : Program} {hp:List Ow} {o:Oper} {arg:Operand→AV}
theorem Quiet.succ {T U:TypeId} {x y:Operand} {a:Nat} (hop:o.op = .binOp .add T x y U) (hx:arg x = .d (ex (.int .i64 (a:Nat)))) (hy:arg y = .d (ex (.int .i64 1))) (h1:(a:Int)<9223372036854775807):Quiet P hp o arg (.d (ex (.int .i64 ((a+1:Nat):Int)))) :=
 Quiet.add hop hx hy (by omega) (by omega)
theorem Quiet.quo {T U:TypeId} {x y:Operand} {a b:Int} (hop:o.op = .binOp .quo T x y U) (hx:arg x = .d (ex (.int .i64 a))) (hy:arg y = .d (ex (.int .i64 b))) (h0:0≤a) (h1:a≤9223372036854775807) (hb:0<b):Quiet P hp o arg (.d (ex (.int .i64 (a / b)))) :=
 Quiet.bin hop hx hy fun w=>by
  have h2:a / b≤a:=Int.ediv_le_self b h0
  have h3:0≤a / b:=Int.ediv_nonneg h0 (by omega)
  have h4:a.tdiv b = a / b:=Int.tdiv_eq_ediv_of_nonneg h0
  have e:IntKind.i64.wrap (a / b) = a / b:=IntWalk.i64_in _ (by omega)
  have hne:b ≠ 0:=by omega
  simp [eqGuard,binOp,Op.intDiv,hne,h4,e]
theorem Quiet.rem {T U:TypeId} {x y:Operand} {k:IntKind} {a b:Int} (hop:o.op = .binOp .rem T x y U) (hx:arg x = .d (ex (.int k a))) (hy:arg y = .d (ex (.int k b))) (h0:0≤a) (hb:0<b):Quiet P hp o arg (.d (ex (.int k (a % b)))) :=
 Quiet.bin hop hx hy fun w=>by
  have h4:a.tmod b = a % b:=Int.tmod_eq_emod_of_nonneg h0
  have hne:b ≠ 0:=by omega
  simp [eqGuard,binOp,Op.intDiv,hne,h4]
theorem Quiet.remT {T U:TypeId} {x y:Operand} {k:IntKind} {a b:Int} (hop:o.op = .binOp .rem T x y U) (hx:arg x = .d (ex (.int k a))) (hy:arg y = .d (ex (.int k b))) (hb:b ≠ 0):Quiet P hp o arg (.d (ex (.int k (a.tmod b)))) :=
 Quiet.bin hop hx hy fun w=>by simp [eqGuard,binOp,Op.intDiv,hb]
theorem Quiet.max {x y:Operand} {tys:Array TypeId} {k:IntKind} {a b:Int} (hop:o.op = .call { callee:=.builtin .max,args:=#[x,y],argTypes:=tys }) (hx:arg x = .d (ex (.int k a))) (hy:arg y = .d (ex (.int k b))):Quiet P hp o arg (.d (ex (.int k (Max.max a b)))):=by
 refine ⟨fun base s ρ ev hok hbs hhp h=>?_⟩
 have h1:=h x (by rw [hop];simp [Op.operands,Call.operands])
 have h2:=h y (by rw [hop];simp [Op.operands,Call.operands])
 rw [hx] at h1;rw [hy] at h2
 have e1:ev x = .int k a:=h1
 have e2:ev y = .int k b:=h2
 refine opG_val (v:=.int k (Max.max a b)) ?_ ⟨GS.Le.refl s,rfl⟩
 have e3:(if b > a then b else a) = Max.max a b:=by
  rw [Int.max_def]
  by_cases h:a≤b
  ·rw [if_pos h];split <;> omega
  ·rw [if_neg h,if_neg (by omega)]
 simp only [execOp,hop,resolve,invoke,builtin,Sem.run_bind,Sem.run_pure,Result.andThen_ok,List.map_toArray,List.map_cons,List.map_nil,e1,e2,Builtin.max_,List.foldlM_cons,List.foldlM_nil,Builtin.max2,e3]
theorem Quiet.indexN {α : Type} [Inhabited α] {x y:Operand} {t:TypeId} {e n b n' b' T sz k:Nat} {d:TypeDesc} {z z':Value} {f:α→List D} {l:List α} {κ:IntKind} (hop:o.op = .indexAddr t x y) (hx:asD hp (arg x) = some (slD T sz (l.map f))) (hy:arg y = .d (ex (.int κ (k:Nat)))) (ht:Tab P t (.slice e) n b z) (he:Tab P e d n' b' z') (hsz:n' = sz) (hk:k<l.length):Quiet P hp o arg (.d (epD T (f (l.getD k default)))):=by
 have h1:=Quiet.index (P:=P) (hp:=hp) hop hx hy ht he hsz (by omega) (by simp;omega)
 have e1:(l.map f).getD ((k:Nat):Int).toNat [] = f (l.getD k default):=by
  show (l.map f).getD k [] = _
  simp [List.getD_eq_getElem?_getD,hk]
 rwa [e1] at h1
theorem Quiet.loadEf {x : Operand} {t:TypeId} {d:TypeDesc} {n b T:Nat} {z:Value} {ds:List D} (hop:o.op = .load t x) (hx:arg x = .d (epD T ds)) (ht:Tab P t d n b z) (hd:isAg d = true) (hn:ds.length = n):Quiet P hp o arg (.d (agD ds)):=by
 have:=Quiet.loadE (P:=P) (hp:=hp) hop hx ht hd (by omega)
 rwa [← hn,List.take_length] at this
theorem asDs_map {hp : List Ow}:∀ (l:List D),asDs hp (l.map .d) = some l
 | []=>rfl
 | x :: l=>by simp only [List.map_cons,asDs,asD,asDs_map l]
theorem Quiet.loadD {x : Operand} {t:TypeId} {d:TypeDesc} {n b T id off:Nat} {z:Value} {ds:List D} (hop:o.op = .load t x) (hx:arg x = .ptr id off) (hh:hp[id]? = some (.var T (ds.map .d))) (ht:Tab P t d n b z) (hd:isAg d = true) (hn:Nat.ble (off+n) ds.length = true):Quiet P hp o arg (.d (agD ((ds.drop off).take n))) :=
 Quiet.loadP hop hx hh ht hd (by rw [← List.map_drop,← List.map_take];exact asDs_map _) (by have:=Nat.le_of_ble_eq_true hn;simpa using this)
theorem Quiet.loadD1 {x : Operand} {t:TypeId} {d:TypeDesc} {n b T id off:Nat} {z:Value} {ds:List D} (hop:o.op = .load t x) (hx:arg x = .ptr id off) (hh:hp[id]? = some (.var T (ds.map .d))) (ht:Tab P t d n b z) (hd:isAg d = false) (hn:off<ds.length):Quiet P hp o arg (.d (dAt ds off)) :=
 Quiet.loadP1 hop hx hh ht hd (by rw [dAt_map,if_pos hn])
end
section
variable {P : Program} {s0:An} {n:Nat} {ops:Array Oper} {Q:Exit→AS→Prop} {rest:List Oper} {o:Oper} {σ:AS}
theorem AWl.storeF {T T0:TypeId} {d:TypeDesc} {b id m:Nat} {z:Value} {x y:Operand} {cells:List AV} {ds:List D} (hop:o.op = .store T x y) (hg:o.guard = none) (hds:o.dst = none) (hx:σ.arg x = .ptr id 0) (hy:σ.arg y = .d (agD ds)) (hh:σ.hp[id]? = some (.var T0 cells)) (ht:Tab P T d m b z) (hm:ds.length = m) (hoff:cells.length = m)
  (h:AWl P s0 n ops Q rest { fr:=σ.fr,hp:=σ.hp.set id (.var T0 (ds.map .d)) }):AWl P s0 n ops Q (o :: rest) σ:=by
 refine AWl.storeA hop hg hds hx hy hh ht hm (by omega) ?_
 have:splice cells 0 (ds.map .d) = ds.map .d:=by
  unfold splice
  rw [List.take_zero,List.nil_append,List.drop_eq_nil_of_le (by simp;omega),List.append_nil]
 rw [this]
 exact h
theorem AWl.storeD {T T0:TypeId} {d:TypeDesc} {b id m off:Nat} {z:Value} {x y:Operand} {cs ds:List D} (hop:o.op = .store T x y) (hg:o.guard = none) (hds:o.dst = none) (hx:σ.arg x = .ptr id off) (hy:σ.arg y = .d (agD ds)) (hh:σ.hp[id]? = some (.var T0 (cs.map .d))) (ht:Tab P T d m b z) (hm:ds.length = m) (hoff:Nat.ble (off+m) cs.length = true)
  (h:AWl P s0 n ops Q rest { fr:=σ.fr,hp:=σ.hp.set id (.var T0 ((spl cs off ds).map .d)) }):AWl P s0 n ops Q (o :: rest) σ:=by
 refine AWl.storeA hop hg hds hx hy hh ht hm (by have:=Nat.le_of_ble_eq_true hoff;simpa using this) ?_
 have:splice (cs.map .d) off (ds.map .d) = (spl cs off ds).map .d:=by simp [splice,spl]
 rw [this]
 exact h
theorem AWl.storeD1 {T T0:TypeId} {d:TypeDesc} {b id off:Nat} {z:Value} {x y:Operand} {cs:List D} {u:D} (hop:o.op = .store T x y) (hg:o.guard = none) (hds:o.dst = none) (hx:σ.arg x = .ptr id off) (hy:σ.arg y = .d u) (hh:σ.hp[id]? = some (.var T0 (cs.map .d))) (ht:Tab P T d 1 b z) (h1:One σ.hp (.d u)) (hoff:off<cs.length)
  (h:AWl P s0 n ops Q rest { fr:=σ.fr,hp:=σ.hp.set id (.var T0 ((cs.set off u).map .d)) }):AWl P s0 n ops Q (o :: rest) σ:=by
 refine AWl.store1 hop hg hds hx hy hh ht h1 (by simpa using hoff) ?_
 have:(cs.map AV.d).set off (.d u) = (cs.set off u).map .d:=by rw [List.map_set]
 rw [this]
 exact h
theorem AWl.allocD {T : TypeId} {d:TypeDesc} {m b:Nat} {z:Value} (hop:o.op = .alloc T) (hg:o.guard = none) (ht:Tab P T d m b z) (hT:Nat.beq T 139 = false) (h1:one1 z.cells.toList = true) (hd:dLt o.dst n = true) (h:AWl P s0 n ops Q rest (σ.new o.dst (.ptr σ.hp.length 0) (.var T ((z.cells.toList.map ex).map .d)))):AWl P s0 n ops Q (o :: rest) σ:=by
 refine AWl.alloc hop hg ht (Nat.ne_of_beq_eq_false hT) h1 hd ?_
 have:exs z.cells.toList = (z.cells.toList.map ex).map .d:=by simp [exs]
 rw [this]
 exact h
end
def argF (fr : List (Nat × AV)):Operand→Option AV
 | .tmp t=>look fr t
 | .const v=>some (.d (ex v))
 | .global g=>some (.d (ex (.pointer (some ⟨g,0,none⟩))))
 | .func f=>some (.d (ex (.func (.func f) #[] #[])))
theorem ao {fr : List (Nat × AV)} {hp:List Ow} {x:Operand} {av:AV} (h:argF fr x = some av):AS.arg ⟨fr,hp⟩ x = av:=by
 cases x with
 | tmp t =>
  show (look fr t).getD (.d anyD) = av
  have h:look fr t = some av:=h
  rw [h];rfl
 | const v=>exact Option.some.inj h
 | global g=>exact Option.some.inj h
 | func f=>exact Option.some.inj h
theorem Quiet.lenN {α : Type} {P:Program} {hp:List Ow} {o:Oper} {arg:Operand→AV} {x:Operand} {t:TypeId} {e n b T sz:Nat} {z:Value} {f:α→List D} {l:List α} (hop:o.op = .call { callee:=.builtin .len,args:=#[x],argTypes:=#[t] }) (hx:asD hp (arg x) = some (slD T sz (l.map f))) (ht:Tab P t (.slice e) n b z):Quiet P hp o arg (.d (ex (.int .i64 (l.length:Nat)))):=by
 have:=Quiet.len (P:=P) hop hx ht
 rwa [List.length_map] at this
def findE : List (Nat × Nat)→Nat→Option Nat
 | [],_=>none
 | p :: r,t=>bif Nat.beq p.1 t then some p.2 else findE r t
theorem findE_some : ∀ {es:List (Nat × Nat)} {t j:Nat},findE es t = some j→∃ p,es.find? (fun p=>p.1 == t) = some p∧p.2 = j
 | [],_,_,h=>by cases h
 | p :: r,t,j,h=>by
  unfold findE at h
  cases hb:Nat.beq p.1 t with
  | true=>rw [hb] at h;cases h;exact ⟨p,by rw [List.find?_cons,Nat.eq_of_beq_eq_true hb];simp,rfl⟩
  | false =>
   rw [hb] at h
   obtain ⟨q,h1,h2⟩:=findE_some h
   refine ⟨q,?_,h2⟩
   rw [List.find?_cons]
   have:(p.1 == t) = false:=by simpa using Nat.ne_of_beq_eq_false hb
   rw [this]
   exact h1
theorem findE_none : ∀ {es:List (Nat × Nat)} {t:Nat},findE es t = none→es.find? (fun p=>p.1 == t) = none
 | [],_,_=>rfl
 | p :: r,t,h=>by
  unfold findE at h
  cases hb:Nat.beq p.1 t with
  | true=>rw [hb] at h;cases h
  | false =>
   rw [hb] at h
   rw [List.find?_cons]
   have:(p.1 == t) = false:=by simpa using Nat.ne_of_beq_eq_false hb
   rw [this]
   exact findE_none h
def hval : Option HR→Option AV
 | some (.av r)=>some r
 | _=>none
def argG (fr : List (Nat × AV)) (rs:List HR) (es:List (Nat × Nat)):Operand→Option AV
 | .tmp t=>match findE es t with
  | some j=>hval rs[j]?
  | none=>look fr t
 | .const v=>some (.d (ex v))
 | .global _=>none
 | .func f=>some (.d (ex (.func (.func f) #[] #[])))
theorem ah {fr : List (Nat × AV)} {hp:List Ow} {rs:List HR} {es:List (Nat × Nat)} {x:Operand} {av:AV} (h:argG fr rs es x = some av):argH ⟨fr,hp⟩ rs es x = av:=by
 cases x with
 | tmp t =>
  replace h:(match findE es t with
   | some j=>hval rs[j]?
   | none=>look fr t) = some av:=h
  show (match es.find? (fun p=>p.1 == t) with
   | some p=>match rs[p.2]? with
    | some h=>h.val
    | none=>.d anyD
   | none=>(look fr t).getD (.d anyD)) = av
  cases hf:findE es t with
  | some j =>
   rw [hf] at h
   replace h:hval rs[j]? = some av:=h
   obtain ⟨p,h1,h2⟩:=findE_some hf
   simp only [h1,h2]
   cases hr:rs[j]? with
   | none=>rw [hr] at h;cases h
   | some r =>
    rw [hr] at h
    cases r with
    | av r=>cases h;rfl
    | new T cs=>cases h
  | none =>
   rw [hf] at h
   simp only [findE_none hf]
   have h:look fr t = some av:=h
   rw [h];rfl
 | const v=>exact Option.some.inj h
 | global g=>cases h
 | func f=>exact Option.some.inj h
def snocO : List Ow→Ow→Option (List Ow)
 | [],x=>some [x]
 | o :: l,x=>match snocO l x with
  | some r=>some (o :: r)
  | none=>none
theorem snocO_eq : ∀ {l:List Ow} {x:Ow} {r:List Ow},snocO l x = some r→r = l ++ [x]
 | [],x,r,h=>by cases h;rfl
 | o :: l,x,r,h=>by
  unfold snocO at h
  split at h
  ·rename_i r' h'
   cases h
   rw [snocO_eq h']
   rfl
  ·cases h
def lenO : List Ow→Option Nat
 | []=>some 0
 | _ :: l=>match lenO l with
  | some k=>some (k+1)
  | none=>none
theorem lenO_eq : ∀ {l:List Ow} {k:Nat},lenO l = some k→k = l.length
 | [],k,h=>by cases h;rfl
 | o :: l,k,h=>by
  unfold lenO at h
  split at h
  ·rename_i r' h'
   cases h
   rw [lenO_eq h']
   rfl
  ·cases h
def setO : List Ow→Nat→Ow→Option (List Ow)
 | [],_,_=>none
 | _ :: l,0,x=>some (x :: l)
 | o :: l,i+1,x=>match setO l i x with
  | some r=>some (o :: r)
  | none=>none
theorem setO_eq : ∀ {l:List Ow} {i:Nat} {x:Ow} {r:List Ow},setO l i x = some r→r = l.set i x
 | [],_,_,_,h=>by cases h
 | _ :: l,0,x,r,h=>by cases h;rfl
 | o :: l,i+1,x,r,h=>by
  unfold setO at h
  split at h
  ·rename_i r' h'
   cases h
   rw [setO_eq h']
   rfl
  ·cases h
def exO : List Value→Option (List D)
 | []=>some []
 | v :: l=>match exO l with
  | some r=>some (ex v :: r)
  | none=>none
theorem exO_eq : ∀ {l:List Value} {r:List D},exO l = some r→r = l.map ex
 | [],r,h=>by cases h;rfl
 | v :: l,r,h=>by
  unfold exO at h
  split at h
  ·rename_i r' h'
   cases h
   rw [exO_eq h']
   rfl
  ·cases h
def takeO : Nat→List D→Option (List D)
 | 0,_=>some []
 | _+1,[]=>none
 | n+1,d :: l=>match takeO n l with
  | some r=>some (d :: r)
  | none=>none
theorem takeO_eq : ∀ {n:Nat} {l r:List D},takeO n l = some r→r = l.take n∧n≤l.length
 | 0,l,r,h=>by cases h;exact ⟨rfl,Nat.zero_le _⟩
 | n+1,[],r,h=>by cases h
 | n+1,d :: l,r,h=>by
  unfold takeO at h
  split at h
  ·rename_i r' h'
   cases h
   obtain ⟨h1,h2⟩:=takeO_eq h'
   exact ⟨by rw [h1];rfl,by simpa using h2⟩
  ·cases h
def subO : Nat→Nat→List D→Option (List D)
 | 0,n,l=>takeO n l
 | _+1,_,[]=>none
 | o+1,n,_ :: l=>subO o n l
theorem subO_eq : ∀ {o n:Nat} {l r:List D},subO o n l = some r→r = (l.drop o).take n∧o+n≤l.length
 | 0,n,l,r,h=>by
  obtain ⟨h1,h2⟩:=takeO_eq (n:=n) (l:=l) (r:=r) (by cases l <;> exact h)
  exact ⟨h1,by omega⟩
 | o+1,n,[],r,h=>by cases h
 | o+1,n,d :: l,r,h=>by
  obtain ⟨h1,h2⟩:=subO_eq (o:=o) (by exact h)
  exact ⟨h1,by simp;omega⟩
def atO : Nat→List D→Option D
 | _,[]=>none
 | 0,d :: _=>some d
 | i+1,_ :: l=>atO i l
theorem atO_eq : ∀ {i:Nat} {l:List D} {d:D},atO i l = some d→d = dAt l i∧i<l.length
 | i,[],d,h=>by cases i <;> cases h
 | 0,x :: l,d,h=>by cases h;exact ⟨rfl,by simp⟩
 | i+1,x :: l,d,h=>by
  obtain ⟨h1,h2⟩:=atO_eq (i:=i) (by exact h)
  exact ⟨h1,by simpa using h2⟩
def preO : List D→List D→Option (List D)
 | [],r=>some r
 | d :: l,r=>match preO l r with
  | some x=>some (d :: x)
  | none=>none
theorem preO_eq : ∀ {l r x:List D},preO l r = some x→x = l ++ r
 | [],r,x,h=>by cases h;rfl
 | d :: l,r,x,h=>by
  unfold preO at h
  split at h
  ·rename_i x' h'
   cases h
   rw [preO_eq h']
   rfl
  ·cases h
def dropO : Nat→List D→Option (List D)
 | 0,l=>some l
 | _+1,[]=>none
 | n+1,_ :: l=>dropO n l
theorem dropO_eq : ∀ {n:Nat} {l r:List D},dropO n l = some r→r = l.drop n∧n≤l.length
 | 0,l,r,h=>by cases l <;> (cases h;exact ⟨rfl,Nat.zero_le _⟩)
 | n+1,[],r,h=>by cases h
 | n+1,d :: l,r,h=>by
  obtain ⟨h1,h2⟩:=dropO_eq (n:=n) (by exact h)
  exact ⟨h1,by simpa using h2⟩
def splO : List D→Nat→List D→Option (List D)
 | l,0,es=>match dropO es.length l with
  | some r=>preO es r
  | none=>none
 | [],_+1,_=>none
 | d :: l,o+1,es=>match splO l o es with
  | some r=>some (d :: r)
  | none=>none
theorem splO_eq : ∀ {l:List D} {o:Nat} {es r:List D},splO l o es = some r→r = spl l o es∧o+es.length≤l.length
 | l,0,es,r,h=>by
  have h':(match dropO es.length l with
   | some r=>preO es r
   | none=>none) = some r:=by cases l <;> exact h
  split at h'
  ·rename_i r' h1
   obtain ⟨h2,h3⟩:=dropO_eq h1
   rw [preO_eq h',h2]
   exact ⟨by simp [spl],by omega⟩
  ·cases h'
 | [],o+1,es,r,h=>by cases h
 | d :: l,o+1,es,r,h=>by
  unfold splO at h
  split at h
  ·rename_i r' h1
   cases h
   obtain ⟨h2,h3⟩:=splO_eq h1
   rw [h2]
   refine ⟨?_,by simp;omega⟩
   simp only [spl,List.take_succ_cons,List.cons_append]
   rw [show o+1+es.length = (o+es.length)+1 by omega,List.drop_succ_cons]
  ·cases h
def downO (id : Nat) (x:D):List (Nat × AV)→Option (List (Nat × AV))
 | []=>some []
 | (t,.own j) :: l=>match downO id x l with
  | some r=>bif Nat.beq j id then some ((t,.d x) :: r) else some ((t,.own j) :: r)
  | none=>none
 | (t,.fn f caps) :: l=>match downO id x l with
  | some r=>bif caps.contains id then some ((t,.d anyD) :: r) else some ((t,.fn f caps) :: r)
  | none=>none
 | (t,av) :: l=>match downO id x l with
  | some r=>some ((t,av) :: r)
  | none=>none
theorem downO_eq {id : Nat} {x:D}:∀ {l r:List (Nat × AV)},downO id x l = some r→r = l.map fun p=>(p.1,down id x p.2)
 | [],r,h=>by cases h;rfl
 | (t,av) :: l,r,h=>by
  have key:∃ r',downO id x l = some r'∧r = (t,down id x av) :: r':=by
   cases av with
   | d y =>
    replace h:(match downO id x l with
     | some r=>some ((t,.d y) :: r)
     | none=>none) = some r:=h
    split at h
    ·rename_i r' h';cases h;exact ⟨r',h',rfl⟩
    ·cases h
   | fn f caps =>
    replace h:(match downO id x l with
     | some r=>bif caps.contains id then some ((t,.d anyD) :: r) else some ((t,.fn f caps) :: r)
     | none=>none) = some r:=h
    split at h
    ·rename_i r' h'
     cases hb:caps.contains id with
     | true=>rw [hb] at h;cases h;exact ⟨r',h',by simp only [down,hb];rfl⟩
     | false=>rw [hb] at h;cases h;exact ⟨r',h',by simp only [down,hb];rfl⟩
    ·cases h
   | ptr i o =>
    replace h:(match downO id x l with
     | some r=>some ((t,.ptr i o) :: r)
     | none=>none) = some r:=h
    split at h
    ·rename_i r' h';cases h;exact ⟨r',h',rfl⟩
    ·cases h
   | own j =>
    replace h:(match downO id x l with
     | some r=>bif Nat.beq j id then some ((t,.d x) :: r) else some ((t,.own j) :: r)
     | none=>none) = some r:=h
    split at h
    ·rename_i r' h'
     cases hb:Nat.beq j id with
     | true=>rw [hb] at h;cases h;exact ⟨r',h',by simp [down,hb]⟩
     | false=>rw [hb] at h;cases h;exact ⟨r',h',by simp [down,hb]⟩
    ·cases h
  obtain ⟨r',h1,rfl⟩:=key
  rw [downO_eq h1]
  rfl
def plainA (id : Nat):List AV→Bool
 | []=>true
 | .own j :: l=>bif Nat.beq j id then false else plainA id l
 | .fn _ caps :: l=>bif caps.contains id then false else plainA id l
 | _ :: l=>plainA id l
def plainHp (id : Nat):List Ow→Bool
 | []=>true
 | .var _ c :: l=>plainA id c && plainHp id l
 | .pin c :: l=>plainA id (c.map (·.2)) && plainHp id l
 | _ :: l=>plainHp id l
theorem plainA_down {id : Nat} {x:D}:∀ {l:List AV},plainA id l = true→l.map (down id x) = l
 | [],_=>rfl
 | .d y :: l,h=>by rw [List.map_cons,plainA_down (by exact h)];rfl
 | .ptr _ _ :: l,h=>by rw [List.map_cons,plainA_down (by exact h)];rfl
 | .own j :: l,h=>by
  replace h:(bif Nat.beq j id then false else plainA id l) = true:=h
  cases hb:Nat.beq j id with
  | true=>rw [hb] at h;cases h
  | false=>rw [hb] at h;rw [List.map_cons,plainA_down (by exact h)];simp only [down,hb];rfl
 | .fn f caps :: l,h=>by
  replace h:(bif caps.contains id then false else plainA id l) = true:=h
  cases hb:caps.contains id with
  | true=>rw [hb] at h;cases h
  | false=>rw [hb] at h;rw [List.map_cons,plainA_down (by exact h)];simp only [down,hb];rfl
theorem plainA_pin {id : Nat} {x:D}:∀ {l:List (Value × AV)},plainA id (l.map (·.2)) = true→(l.map fun p=>(p.1,down id x p.2)) = l:=fun {l} h=>by
 have h1:=plainA_down (x:=x) h
 apply List.ext_getElem?
 intro k
 have h2:=congrArg (fun y=>y[k]?) h1
 simp only [List.getElem?_map] at h2 ⊢
 cases hk:l[k]? with
 | none=>rfl
 | some p =>
  rw [hk] at h2
  simp only [Option.map_some,Option.some.injEq] at h2 ⊢
  rw [h2]
theorem plainHp_down {id : Nat} {x:D}:∀ {l:List Ow},plainHp id l = true→l.map (Ow.mapA (down id x)) = l
 | [],_=>rfl
 | .var T c :: l,h=>by
  simp only [plainHp,Bool.and_eq_true] at h
  rw [List.map_cons,plainHp_down h.2]
  simp only [Ow.mapA,plainA_down h.1]
 | .pin c :: l,h=>by
  simp only [plainHp,Bool.and_eq_true] at h
  rw [List.map_cons,plainHp_down h.2]
  simp only [Ow.mapA,plainA_pin h.1]
 | .dead :: l,h=>by rw [List.map_cons,plainHp_down (by exact h)];rfl
 | .row _ _ _ :: l,h=>by rw [List.map_cons,plainHp_down (by exact h)];rfl
 | .obj _ :: l,h=>by rw [List.map_cons,plainHp_down (by exact h)];rfl
theorem plainA_mapD {id : Nat}:∀ l:List D,plainA id (l.map .d) = true
 | []=>rfl
 | _ :: l=>plainA_mapD (id:=id) l
def PlainHp (id : Nat):List Ow→Prop
 | []=>True
 | .var _ c :: l=>plainA id c = true∧PlainHp id l
 | .pin c :: l=>plainA id (c.map (·.2)) = true∧PlainHp id l
 | _ :: l=>PlainHp id l
theorem PlainHp.ok {id : Nat}:∀ {l:List Ow},PlainHp id l→plainHp id l = true
 | [],_=>rfl
 | .var T c :: l,h=>by simp only [plainHp,Bool.and_eq_true];exact ⟨h.1,PlainHp.ok h.2⟩
 | .pin c :: l,h=>by simp only [plainHp,Bool.and_eq_true];exact ⟨h.1,PlainHp.ok h.2⟩
 | .dead :: l,h=>PlainHp.ok (l:=l) h
 | .row _ _ _ :: l,h=>PlainHp.ok (l:=l) h
 | .obj _ :: l,h=>PlainHp.ok (l:=l) h
section
variable {id : Nat} {l:List Ow}
theorem PlainHp.nil : PlainHp id []:=trivial
theorem PlainHp.var {T : TypeId} {c:List D} (h:PlainHp id l):PlainHp id (.var T (c.map .d) :: l):=⟨plainA_mapD c,h⟩
theorem PlainHp.varA {T : TypeId} {c:List AV} (hc:plainA id c = true) (h:PlainHp id l):PlainHp id (.var T c :: l):=⟨hc,h⟩
theorem PlainHp.pin {c : List (Value × AV)} (hc:plainA id (c.map (·.2)) = true) (h:PlainHp id l):PlainHp id (.pin c :: l):=⟨hc,h⟩
theorem PlainHp.obj {O : OD} (h:PlainHp id l):PlainHp id (.obj O :: l):=h
theorem PlainHp.dead (h : PlainHp id l):PlainHp id (.dead :: l):=h
theorem PlainHp.row {T sz:Nat} {r:List (List D)} (h:PlainHp id l):PlainHp id (.row T sz r :: l):=h
end
def aftO : List (Nat × AV)→List Ow→Nat→List Oper→List HR→Option AS
 | fr,hp,0,_,_=>some ⟨fr,hp⟩
 | fr,hp,m+1,o :: L,.av r :: rs=>match o.dst with
  | some d=>aftO ((d,r) :: fr) hp m L rs
  | none=>aftO fr hp m L rs
 | fr,hp,m+1,o :: L,.new T cs :: rs=>match o.dst,lenO hp,exO cs with
  | some d,some k,some c=>match snocO hp (.var T (c.map .d)) with
   | some hp'=>aftO ((d,.ptr k 0) :: fr) hp' m L rs
   | none=>none
  | _,_,_=>none
 | _,_,_,_,_=>none
theorem aftO_eq : ∀ {m:Nat} {fr:List (Nat × AV)} {hp:List Ow} {L:List Oper} {rs:List HR} {τ:AS},aftO fr hp m L rs = some τ→rs.length = m→τ = AS.aft ⟨fr,hp⟩ (L.take m) rs
 | 0,fr,hp,L,rs,τ,h,hl=>by
  obtain rfl:rs = []:=List.eq_nil_of_length_eq_zero hl
  cases L <;> (cases h;rfl)
 | m+1,fr,hp,[],[],τ,h,hl=>by cases hl
 | m+1,fr,hp,[],r :: rs,τ,h,hl=>by cases r <;> cases h
 | m+1,fr,hp,o :: L,[],τ,h,hl=>by cases hl
 | m+1,fr,hp,o :: L,.av r :: rs,τ,h,hl=>by
  rw [List.take_succ_cons]
  have hl:rs.length = m:=by simpa using hl
  unfold aftO at h
  cases hd:o.dst with
  | some d =>
   rw [hd] at h
   have:=aftO_eq h hl
   rw [this]
   simp only [AS.aft,AS.put,hd]
  | none =>
   rw [hd] at h
   have:=aftO_eq h hl
   rw [this]
   simp only [AS.aft,AS.put,hd]
 | m+1,fr,hp,o :: L,.new T cs :: rs,τ,h,hl=>by
  rw [List.take_succ_cons]
  have hl:rs.length = m:=by simpa using hl
  unfold aftO at h
  split at h
  ·rename_i d k c hd hk hc
   split at h
   ·rename_i hp' hs
    have:=aftO_eq h hl
    rw [this]
    have e1:=snocO_eq hs
    have e2:=lenO_eq hk
    have e3:=exO_eq hc
    subst e1;subst e2;subst e3
    simp only [AS.aft,AS.new,AS.put,hd]
    congr 3
    simp [exs]
   ·cases h
  ·cases h
section
variable {P : Program} {s0:An} {n:Nat} {ops:Array Oper} {Q:Exit→AS→Prop} {rest:List Oper} {o:Oper} {fr:List (Nat × AV)} {hp:List Ow}
theorem AWl.q {d : Nat} {r:AV} (hdst:o.dst = some d) (hg:o.guard = none) (hs:notSelect o.op = true) (hd:Nat.blt d n = true) (hq:Quiet P hp o (AS.arg ⟨fr,hp⟩) r) (h:AWl P s0 n ops Q rest ⟨(d,r) :: fr,hp⟩):AWl P s0 n ops Q (o :: rest) ⟨fr,hp⟩ :=
 AWl.quiet hg hs (by rw [hdst];exact hd) hq (by rw [hdst];exact h)
theorem AWl.qG {d : Nat} {r:AV} {j:Nat} {b:Bool} {e:Nat} (hg:o.guard = some (j,b)) (hy:(ops[j]?).bind (·.dst) = some e) (hl:look fr e = some (.d (ex (.bool b)))) (hen:Nat.blt e n = true) (hdst:o.dst = some d) (hs:notSelect o.op = true) (hd:Nat.blt d n = true) (hq:Quiet P hp o (AS.arg ⟨fr,hp⟩) r) (h:AWl P s0 n ops Q rest ⟨(d,r) :: fr,hp⟩):AWl P s0 n ops Q (o :: rest) ⟨fr,hp⟩ :=
 AWl.quietG hg hy hl (by simpa [Nat.blt_eq] using hen) hs (by rw [hdst];exact hd) hq (by rw [hdst];exact h)
theorem AWl.sG {d : Nat} {j:Nat} {b:Bool} {u:Value} {e:Nat} (hg:o.guard = some (j,b)) (hy:(ops[j]?).bind (·.dst) = some e) (hl:look fr e = some (.d (ex u))) (hne:isB u b = false) (hen:Nat.blt e n = true) (hdst:o.dst = some d) (hd:Nat.blt d n = true) (h:AWl P s0 n ops Q rest ⟨(d,.d (ex undef)) :: fr,hp⟩):AWl P s0 n ops Q (o :: rest) ⟨fr,hp⟩ :=
 AWl.skipG hg hy hl hne (by simpa [Nat.blt_eq] using hen) (by rw [hdst];exact hd) (by rw [hdst];exact h)
theorem AWl.al {T : TypeId} {d:TypeDesc} {m b k t:Nat} {z:Value} {c:List D} {hp':List Ow} (hop:o.op = .alloc T) (hdst:o.dst = some t) (hg:o.guard = none) (ht:Tab P T d m b z) (hT:Nat.beq T 139 = false) (h1:one1 z.cells.toList = true) (hd:Nat.blt t n = true) (hc:exO z.cells.toList = some c) (hk:lenO hp = some k) (hs:snocO hp (.var T (c.map .d)) = some hp') (h:AWl P s0 n ops Q rest ⟨(t,.ptr k 0) :: fr,hp'⟩):AWl P s0 n ops Q (o :: rest) ⟨fr,hp⟩:=by
 refine AWl.allocD hop hg ht hT h1 (by rw [hdst];exact hd) ?_
 rw [exO_eq hc] at hs
 rw [snocO_eq hs,lenO_eq hk] at h
 simp only [AS.new,AS.put,hdst]
 exact h
theorem AWl.bx {T : TypeId} {x:Operand} {ds:List D} {k t:Nat} {hp':List Ow} (hop:o.op = .box T x) (hdst:o.dst = some t) (hg:o.guard = none) (hx:AS.arg ⟨fr,hp⟩ x = .d (agD ds)) (hT:Nat.beq T 139 = false) (hd:Nat.blt t n = true) (hk:lenO hp = some k) (hs:snocO hp (.var T (ds.map .d)) = some hp') (h:AWl P s0 n ops Q rest ⟨(t,.ptr k 0) :: fr,hp'⟩):AWl P s0 n ops Q (o :: rest) ⟨fr,hp⟩:=by
 refine AWl.box hop hg hx (Nat.ne_of_beq_eq_false hT) (by rw [hdst];exact hd) ?_
 rw [snocO_eq hs,lenO_eq hk] at h
 simp only [AS.new,AS.put,hdst]
 exact h
theorem AWl.stF {T T0:TypeId} {d:TypeDesc} {b id m:Nat} {z:Value} {x y:Operand} {cells:List AV} {ds:List D} {hp':List Ow} (hop:o.op = .store T x y) (hg:o.guard = none) (hds:o.dst = none) (hx:AS.arg ⟨fr,hp⟩ x = .ptr id 0) (hy:AS.arg ⟨fr,hp⟩ y = .d (agD ds)) (hh:hp[id]? = some (.var T0 cells)) (ht:Tab P T d m b z) (hm:ds.length = m) (hoff:cells.length = m) (hs:setO hp id (.var T0 (ds.map .d)) = some hp')
  (h:AWl P s0 n ops Q rest ⟨fr,hp'⟩):AWl P s0 n ops Q (o :: rest) ⟨fr,hp⟩ :=
 AWl.storeF hop hg hds hx hy hh ht hm hoff (by rw [setO_eq hs] at h;exact h)
theorem AWl.stD1 {T T0:TypeId} {d:TypeDesc} {b id off:Nat} {z:Value} {x y:Operand} {cs cs':List D} {u:D} {hp':List Ow} (hop:o.op = .store T x y) (hg:o.guard = none) (hds:o.dst = none) (hx:AS.arg ⟨fr,hp⟩ x = .ptr id off) (hy:AS.arg ⟨fr,hp⟩ y = .d u) (hh:hp[id]? = some (.var T0 (cs.map .d))) (ht:Tab P T d 1 b z) (h1:One hp (.d u)) (hc:splO cs off [u] = some cs') (hs:setO hp id (.var T0 (cs'.map .d)) = some hp')
  (h:AWl P s0 n ops Q rest ⟨fr,hp'⟩):AWl P s0 n ops Q (o :: rest) ⟨fr,hp⟩:=by
 obtain ⟨e1,e2⟩:=splO_eq hc
 have hlt:off<cs.length:=e2
 refine AWl.storeD1 hop hg hds hx hy hh ht h1 hlt ?_
 rw [setO_eq hs,e1] at h
 have:spl cs off [u] = cs.set off u:=by
  unfold spl
  rw [List.set_eq_take_append_cons_drop,if_pos hlt]
  rfl
 rw [this] at h
 exact h
theorem AWl.app {x y:Operand} {t T T2 sz bytes id m b e:Nat} {z z':Value} {d:TypeDesc} {rows r2:List (List D)} {fr':List (Nat × AV)} {hp':List Ow} (hop:o.op = .call { callee:=.builtin .append,args:=#[x,y],argTypes:=#[t,t] }) (hdst:o.dst = some e) (hg:o.guard = none) (hx:AS.arg ⟨fr,hp⟩ x = .own id) (hy:asD hp (AS.arg ⟨fr,hp⟩ y) = some (slD T2 sz r2)) (hh:hp[id]? = some (.row T sz rows)) (ht:Tab P t (.slice T) m b z') (hT:Tab P T d sz bytes z) (hzs:z.cells.size = sz) (hd:Nat.blt e n = true) (hbytes:(rows.length+r2.length)*bytes≤140737488355328) (h63:rows.length+r2.length≤4611686018427387904)
  (hf:downO id (slD T sz rows) fr = some fr') (hpl:PlainHp id hp) (hs:setO hp id (.row T sz (rows ++ r2)) = some hp') (h:AWl P s0 n ops Q rest ⟨(e,.own id) :: fr',hp'⟩):AWl P s0 n ops Q (o :: rest) ⟨fr,hp⟩:=by
 refine AWl.append hop hg hx hy hh ht hT hzs (by rw [hdst];exact hd) hbytes h63 ?_
 rw [setO_eq hs,downO_eq hf] at h
 simp only [AS.appd,AS.put,hdst,plainHp_down hpl.ok]
 exact h
theorem AWl.b0 {t T m b sz bytes k e:Nat} {z z':Value} {d:TypeDesc} {hp':List Ow} (hop:o.op = .buildSlice t 0 #[]) (hdst:o.dst = some e) (hg:o.guard = none) (ht:Tab P t (.slice T) m b z') (hT:Tab P T d sz bytes z) (hT32:Nat.beq T 139 = false) (h0:Nat.blt 0 sz = true) (hd:Nat.blt e n = true) (hk:lenO hp = some k) (hs:snocO hp (.row T sz []) = some hp') (h:AWl P s0 n ops Q rest ⟨(e,.own k) :: fr,hp'⟩):AWl P s0 n ops Q (o :: rest) ⟨fr,hp⟩:=by
 refine AWl.build0 hop hg ht hT (Nat.ne_of_beq_eq_false hT32) (by simpa [Nat.blt_eq] using h0) (by rw [hdst];exact hd) ?_
 rw [snocO_eq hs,lenO_eq hk] at h
 simp only [AS.new,AS.put,hdst]
 exact h
theorem AWl.mk0 {t T m b sz bytes k e:Nat} {z z':Value} {d:TypeDesc} {x y:Operand} {c:Int} {hp':List Ow} (hop:o.op = .makeSlice t x y) (hdst:o.dst = some e) (hg:o.guard = none) (hx:AS.arg ⟨fr,hp⟩ x = .d (ex (.int .i64 0))) (hy:AS.arg ⟨fr,hp⟩ y = .d (ex (.int .i64 c))) (ht:Tab P t (.slice T) m b z') (hT:Tab P T d sz bytes z) (hc0:0≤c) (hc:c≤1000000000) (hbytes:Nat.ble bytes 65536 = true) (hT32:Nat.beq T 139 = false) (h0:Nat.blt 0 sz = true) (hd:Nat.blt e n = true) (hk:lenO hp = some k) (hs:snocO hp (.row T sz []) = some hp') (h:AWl P s0 n ops Q rest ⟨(e,.own k) :: fr,hp'⟩):AWl P s0 n ops Q (o :: rest) ⟨fr,hp⟩:=by
 refine AWl.make0 hop hg hx hy ht hT hc0 hc (Nat.le_of_ble_eq_true hbytes) (Nat.ne_of_beq_eq_false hT32) (by simpa [Nat.blt_eq] using h0) (by rw [hdst];exact hd) ?_
 rw [snocO_eq hs,lenO_eq hk] at h
 simp only [AS.new,AS.put,hdst]
 exact h
theorem AWp.dr {id : Nat} {L0:Array Oper} {L:List Oper} {Q0:Exit→AS→Prop} {τ:AS} (hm:DrawOk P s0 n id L0 L Q0 Q) (es:List (List (Nat × Nat))) (bs:List (List Nat)) (rs:List HR) (hlen:(es.length == bs.length && es.length == rs.length && Nat.ble rs.length L.length) = true) (hok:regOk L (shOf 0 es bs) = true) (hd:dstOk L es.length n = true) (steps:HSteps P ⟨fr,hp⟩ rs L es rs)
  (ha:aftO fr hp rs.length L rs = some τ) (tail:AWl P s0 n L.toArray Q (L.drop es.length) τ):AWp P s0 n (.region id L0 true) Q0 ⟨fr,hp⟩:=by
 refine AWp.draw hm es bs rs hlen hok hd steps ?_
 simp only [Bool.and_eq_true,beq_iff_eq] at hlen
 rw [hlen.1.2,← aftO_eq ha rfl,← hlen.1.2]
 exact tail
end
section
variable {P : Program} {hp:List Ow} {o:Oper} {arg:Operand→AV}
theorem Quiet.ldE {x : Operand} {t:TypeId} {d:TypeDesc} {n b T:Nat} {z:Value} {ds r:List D} (hop:o.op = .load t x) (hx:arg x = .d (epD T ds)) (ht:Tab P t d n b z) (hd:isAg d = true) (hr:takeO n ds = some r):Quiet P hp o arg (.d (agD r)):=by
 obtain ⟨e1,e2⟩:=takeO_eq hr
 rw [e1]
 exact Quiet.loadE hop hx ht hd e2
theorem Quiet.ldE1 {x : Operand} {t:TypeId} {d:TypeDesc} {n b T:Nat} {z:Value} {ds:List D} {r:D} (hop:o.op = .load t x) (hx:arg x = .d (epD T ds)) (ht:Tab P t d n b z) (hd:isAg d = false) (hr:atO 0 ds = some r):Quiet P hp o arg (.d r):=by
 obtain ⟨e1,e2⟩:=atO_eq hr
 rw [e1]
 exact Quiet.loadE1 hop hx ht hd e2
theorem Quiet.ldD {x : Operand} {t:TypeId} {d:TypeDesc} {n b T id off:Nat} {z:Value} {ds r:List D} (hop:o.op = .load t x) (hx:arg x = .ptr id off) (hh:hp[id]? = some (.var T (ds.map .d))) (ht:Tab P t d n b z) (hd:isAg d = true) (hr:subO off n ds = some r):Quiet P hp o arg (.d (agD r)):=by
 obtain ⟨e1,e2⟩:=subO_eq hr
 rw [e1]
 exact Quiet.loadD hop hx hh ht hd (Nat.ble_eq_true_of_le e2)
theorem Quiet.ldD1 {x : Operand} {t:TypeId} {d:TypeDesc} {n b T id off:Nat} {z:Value} {ds:List D} {r:D} (hop:o.op = .load t x) (hx:arg x = .ptr id off) (hh:hp[id]? = some (.var T (ds.map .d))) (ht:Tab P t d n b z) (hd:isAg d = false) (hr:atO off ds = some r):Quiet P hp o arg (.d r):=by
 obtain ⟨e1,e2⟩:=atO_eq hr
 rw [e1]
 exact Quiet.loadD1 hop hx hh ht hd e2
theorem Quiet.ext {x : Operand} {i:Nat} {ds:List D} {r:D} (hop:o.op = .extract x i) (hx:arg x = .d (tupD ds)) (hr:atO i ds = some r):Quiet P hp o arg (.d r):=by
 obtain ⟨e1,e2⟩:=atO_eq hr
 rw [e1]
 exact Quiet.extract hop hx e2
theorem Quiet.fldE {x : Operand} {S:TypeId} {fs:Array Field} {f n b n' b' T:Nat} {fd:Field} {d:TypeDesc} {z z':Value} {ds r:List D} (hop:o.op = .fieldAddr S x f) (hx:arg x = .d (epD T ds)) (hS:Tab P S (.struct fs) n b z) (hf:fs[f]? = some fd) (he:Tab P fd.type d n' b' z') (hn:Nat.beq n' 0 = false) (hr:dropO fd.offset ds = some r):Quiet P hp o arg (.d (epD T r)):=by
 obtain ⟨e1,e2⟩:=dropO_eq hr
 rw [e1]
 exact Quiet.fieldE hop hx hS hf he (Nat.ne_of_beq_eq_false hn)
theorem Quiet.fldP {x : Operand} {S:TypeId} {fs:Array Field} {f n b n' b' id off:Nat} {fd:Field} {d:TypeDesc} {z z':Value} (hop:o.op = .fieldAddr S x f) (hx:arg x = .ptr id off) (hS:Tab P S (.struct fs) n b z) (hf:fs[f]? = some fd) (he:Tab P fd.type d n' b' z') (hn:Nat.beq n' 0 = false):Quiet P hp o arg (.ptr id (off+fd.offset)) :=
 Quiet.fieldP hop hx hS hf he (Nat.ne_of_beq_eq_false hn)
end
def cmpP : BinOp→Int→Int→Prop
 | .eql,a,b=>a = b
 | .neq,a,b=>a ≠ b
 | .lss,a,b=>a<b
 | .leq,a,b=>a≤b
 | .gtr,a,b=>b<a
 | .geq,a,b=>b≤a
 | _,_,_=>False
def isCmp : BinOp→Bool
 | .eql | .neq | .lss | .leq | .gtr | .geq=>true
 | _=>false
section
variable {P : Program} {hp:List Ow} {o:Oper} {arg:Operand→AV}
theorem Quiet.cmpT {op : BinOp} {T U:TypeId} {x y:Operand} {k:IntKind} {a b:Int} (hop:o.op = .binOp op T x y U) (hb:isCmp op = true) (hx:arg x = .d (ex (.int k a))) (hy:arg y = .d (ex (.int k b))) (hc:cmpP op a b):Quiet P hp o arg (.d (ex (.bool true))):=by
 refine Quiet.cmp hop hx hy ?_
 cases op <;> first | (simp only [cmpP] at hc;simp [cmpB,hc];done) | (simp only [cmpP] at hc;simp [cmpB];omega) | exact absurd hb (by decide)
theorem Quiet.cmpF {op : BinOp} {T U:TypeId} {x y:Operand} {k:IntKind} {a b:Int} (hop:o.op = .binOp op T x y U) (hb:isCmp op = true) (hx:arg x = .d (ex (.int k a))) (hy:arg y = .d (ex (.int k b))) (hc:¬ cmpP op a b):Quiet P hp o arg (.d (ex (.bool false))):=by
 refine Quiet.cmp hop hx hy ?_
 cases op <;> first | (simp only [cmpP] at hc;simp [cmpB,hc];done) | (simp only [cmpP] at hc;simp [cmpB];omega) | exact absurd hb (by decide)
theorem Quiet.index0 {α : Type} {x y:Operand} {t:TypeId} {e n b n' b' T sz:Nat} {d:TypeDesc} {z z':Value} {f:α→List D} {a:α} {l:List α} {κ:IntKind} (hop:o.op = .indexAddr t x y) (hx:asD hp (arg x) = some (slD T sz ((a :: l).map f))) (hy:arg y = .d (ex (.int κ 0))) (ht:Tab P t (.slice e) n b z) (he:Tab P e d n' b' z') (hsz:n' = sz):Quiet P hp o arg (.d (epD T (f a))) :=
 Quiet.index (P:=P) (hp:=hp) hop hx hy ht he hsz (by omega) (by simp)
theorem Quiet.dropN {α : Type} {x y:Operand} {t:TypeId} {e n b n' b' T sz i:Nat} {d:TypeDesc} {z z':Value} {f:α→List D} {l:List α} (hop:o.op = .slice t x (some y) none none) (hx:asD hp (arg x) = some (slD T sz (l.map f))) (hy:arg y = .d (ex (.int .i64 (i:Nat)))) (ht:Tab P t (.slice e) n b z) (he:Tab P e d n' b' z') (hsz:n' = sz) (hi:i≤l.length):Quiet P hp o arg (.d (slD T sz ((l.drop i).map f))):=by
 have h:=Quiet.slice (P:=P) (hp:=hp) (i:=(i:Nat)) (j:=((l.map f).length:Nat)) hop hx ht he hsz (.inl ⟨y,rfl,hy⟩) (.inr ⟨rfl,rfl⟩) (by omega) (by simp;omega) (by omega)
 have e1:((l.map f).take (((l.map f).length:Nat):Int).toNat).drop ((i:Nat):Int).toNat = (l.drop i).map f:=by
  rw [show (((l.map f).length:Nat):Int).toNat = (l.map f).length from rfl,List.take_length,List.map_drop]
  rfl
 rwa [e1] at h
theorem Quiet.tailN {α : Type} {x y:Operand} {t:TypeId} {e n b n' b' T sz:Nat} {d:TypeDesc} {z z':Value} {f:α→List D} {a:α} {l:List α} (hop:o.op = .slice t x (some y) none none) (hx:asD hp (arg x) = some (slD T sz ((a :: l).map f))) (hy:arg y = .d (ex (.int .i64 1))) (ht:Tab P t (.slice e) n b z) (he:Tab P e d n' b' z') (hsz:n' = sz):Quiet P hp o arg (.d (slD T sz (l.map f))) :=
 Quiet.dropN (l:=a :: l) (i:=1) hop hx hy ht he hsz (by simp)
theorem Quiet.takeN {α : Type} {x y:Operand} {t:TypeId} {e n b n' b' T sz i:Nat} {d:TypeDesc} {z z':Value} {f:α→List D} {l:List α} (hop:o.op = .slice t x none (some y) none) (hx:asD hp (arg x) = some (slD T sz (l.map f))) (hy:arg y = .d (ex (.int .i64 (i:Nat)))) (ht:Tab P t (.slice e) n b z) (he:Tab P e d n' b' z') (hsz:n' = sz) (hi:i≤l.length):Quiet P hp o arg (.d (slD T sz ((l.take i).map f))):=by
 have h:=Quiet.slice (P:=P) (hp:=hp) (i:=0) (j:=(i:Nat)) hop hx ht he hsz (.inr ⟨rfl,rfl⟩) (.inl ⟨y,rfl,hy⟩) (by omega) (by omega) (by simp;omega)
 have e1:((l.map f).take ((i:Nat):Int).toNat).drop ((0:Nat):Int).toNat = (l.take i).map f:=by
  show ((l.map f).take i).drop 0 = _
  rw [List.drop_zero,List.map_take]
 exact e1 ▸ h
end
theorem map_snoc {α : Type} (f:α→List D) (l:List α) (a:α):l.map f ++ [f a] = (l ++ [a]).map f:=by simp
theorem AWl.q' {P : Program} {s0:An} {n:Nat} {ops:Array Oper} {Q:Exit→AS→Prop} {rest:List Oper} {o:Oper} {fr:List (Nat × AV)} {hp:List Ow} {d:Nat} (hdst:o.dst = some d) (hg:o.guard = none) (hs:notSelect o.op = true) (hd:Nat.blt d n = true) (h:∃ r,Quiet P hp o (AS.arg ⟨fr,hp⟩) r∧AWl P s0 n ops Q rest ⟨(d,r) :: fr,hp⟩):AWl P s0 n ops Q (o :: rest) ⟨fr,hp⟩:=by
 obtain ⟨r,h1,h2⟩:=h
 exact AWl.q hdst hg hs hd h1 h2
theorem AWl.qG' {P : Program} {s0:An} {n:Nat} {ops:Array Oper} {Q:Exit→AS→Prop} {rest:List Oper} {o:Oper} {fr:List (Nat × AV)} {hp:List Ow} {d:Nat} {j:Nat} {b:Bool} {e:Nat} (hg:o.guard = some (j,b)) (hy:(ops[j]?).bind (·.dst) = some e) (hl:look fr e = some (.d (ex (.bool b)))) (hen:Nat.blt e n = true) (hdst:o.dst = some d) (hs:notSelect o.op = true) (hd:Nat.blt d n = true) (h:∃ r,Quiet P hp o (AS.arg ⟨fr,hp⟩) r∧AWl P s0 n ops Q rest ⟨(d,r) :: fr,hp⟩):AWl P s0 n ops Q (o :: rest) ⟨fr,hp⟩:=by
 obtain ⟨r,h1,h2⟩:=h
 exact AWl.qG hg hy hl hen hdst hs hd h1 h2
def snocH : List HR→HR→Option (List HR)
 | [],x=>some [x]
 | o :: l,x=>match snocH l x with
  | some r=>some (o :: r)
  | none=>none
theorem snocH_eq : ∀ {l:List HR} {x:HR} {r:List HR},snocH l x = some r→r = l ++ [x]
 | [],x,r,h=>by cases h;rfl
 | o :: l,x,r,h=>by
  unfold snocH at h
  split at h
  ·rename_i r' h'
   cases h
   rw [snocH_eq h']
   rfl
  ·cases h
def HS (P : Program) (σ:AS) (K:List HR→Prop):List HR→List Oper→List (List (Nat × Nat))→Prop
 | acc,_,[]=>K acc
 | acc,o :: L,e :: es=>∃ r,HStep P σ acc e o r∧∃ acc',snocH acc r = some acc'∧HS P σ K acc' L es
 | _,[],_ :: _=>False
def earlier : Nat→List Oper→List (List (Nat × Nat))→Bool
 | _,_,[]=>true
 | i,o :: L,e :: es=>e.all (fun p=>Nat.blt p.2 i) && (match o.guard with | some (j,_)=>Nat.blt j i | none=>true) && earlier (i+1) L es
 | _,[],_ :: _=>false
theorem argH_more {σ : AS} {acc more:List HR} {es:List (Nat × Nat)} (h:∀ p∈es,p.2<acc.length):argH σ (acc ++ more) es = argH σ acc es:=by
 funext x
 cases x with
 | tmp t =>
  show (match es.find? (fun p=>p.1 == t) with
   | some p=>match (acc ++ more)[p.2]? with
    | some h=>h.val
    | none=>.d anyD
   | none=>_) = (match es.find? (fun p=>p.1 == t) with
   | some p=>match acc[p.2]? with
    | some h=>h.val
    | none=>.d anyD
   | none=>_)
  cases hf:es.find? (fun p=>p.1 == t) with
  | none=>rfl
  | some p =>
   simp only
   rw [List.getElem?_append_left (h p (List.mem_of_find?_eq_some hf))]
 | const v=>rfl
 | global g=>rfl
 | func f=>rfl
theorem HStep.more {P : Program} {σ:AS} {acc more:List HR} {e:List (Nat × Nat)} {o:Oper} {r:HR} (h:HStep P σ acc e o r) (he:∀ p∈e,p.2<acc.length) (hg:∀ j b,o.guard = some (j,b)→j<acc.length):HStep P σ (acc ++ more) e o r:=by
 cases r with
 | av r =>
  rcases h with ⟨h1,h2⟩ | ⟨j,b,c,h1,h2,h3⟩
  ·exact .inl ⟨h1,by rw [argH_more he];exact h2⟩
  ·refine .inr ⟨j, b, c, h1, by rw [List.getElem?_append_left (hg j b h1)]; exact h2, ?_⟩
   rw [argH_more he]
   exact h3
 | new T cs=>exact h
theorem HS.steps {P : Program} {σ:AS} {K:List HR→Prop}:∀ {es:List (List (Nat × Nat))} {L:List Oper} {acc:List HR},earlier acc.length L es = true→HS P σ K acc L es→∃ more,more.length = es.length∧HSteps P σ (acc ++ more) L es more∧K (acc ++ more)
 | [],L,acc,_,h=>by
  refine ⟨[],rfl,HSteps.nil,?_⟩
  rw [List.append_nil]
  cases L <;> exact h
 | e :: es,[],acc,he,h=>by cases he
 | e :: es,o :: L,acc,he,h=>by
  obtain ⟨r,h1,acc',h2,h3⟩:=h
  have e1:=snocH_eq h2
  subst e1
  simp only [earlier,Bool.and_eq_true] at he
  obtain ⟨⟨he1,he2⟩,he3⟩:=he
  obtain ⟨more,h4,h5,h6⟩:=HS.steps (acc:=acc ++ [r]) (by simpa using he3) h3
  rw [List.append_assoc,List.singleton_append] at h5 h6
  refine ⟨r :: more,by simp [h4],⟨h1.more (fun p hp=>?_) fun j b hj=>?_,h5⟩,h6⟩
  ·have:=List.all_eq_true.1 he1 p hp
   simpa [Nat.blt_eq] using this
  ·rw [hj] at he2
   simpa [Nat.blt_eq] using he2
theorem AWp.dr' {P : Program} {s0:An} {n:Nat} {Q Q0:Exit→AS→Prop} {fr:List (Nat × AV)} {hp:List Ow} {id:Nat} {L0:Array Oper} {L:List Oper} (hm:DrawOk P s0 n id L0 L Q0 Q) (es:List (List (Nat × Nat))) (bs:List (List Nat)) (hlen:(es.length == bs.length && Nat.ble es.length L.length) = true) (hok:regOk L (shOf 0 es bs) = true) (hd:dstOk L es.length n = true) (hlt:earlier 0 L es = true)
  (h:HS P ⟨fr,hp⟩ (fun rs=>∃ τ,aftO fr hp es.length L rs = some τ∧AWl P s0 n L.toArray Q (L.drop es.length) τ) [] L es):AWp P s0 n (.region id L0 true) Q0 ⟨fr,hp⟩:=by
 obtain ⟨rs,h1,h2,τ,h3,h4⟩:=HS.steps (acc:=[]) hlt h
 simp only [List.nil_append] at h2 h3
 simp only [Bool.and_eq_true,beq_iff_eq] at hlen
 exact AWp.dr hm es bs rs (by simp only [Bool.and_eq_true,beq_iff_eq];exact ⟨⟨hlen.1,h1.symm⟩,by rw [h1];exact hlen.2⟩) hok hd h2 (by rw [h1];exact h3) h4
section
variable {P : Program} {hp:List Ow} {arg:Operand→AV} {dd:Option Tmp} {ty:TypeId} {ps:String} {af:Array Edge} {gd:Option (Nat × Bool)}
theorem Qs.len {x : Operand} {t:TypeId} {e n b T sz:Nat} {z:Value} {rows:List (List D)} (hx:asD hp (arg x) = some (slD T sz rows)) (ht:Tab P t (.slice e) n b z):Quiet P hp ⟨dd,.call { callee:=.builtin .len,args:=#[x],argTypes:=#[t] },ty,ps,af,gd⟩ arg (.d (ex (.int .i64 rows.length))):=Quiet.len (o:=⟨dd,.call { callee:=.builtin .len,args:=#[x],argTypes:=#[t] },ty,ps,af,gd⟩) rfl hx ht
theorem Qs.lenN {α : Type} {x:Operand} {t:TypeId} {e n b T sz:Nat} {z:Value} {f:α→List D} {l:List α} (hx:asD hp (arg x) = some (slD T sz (l.map f))) (ht:Tab P t (.slice e) n b z):Quiet P hp ⟨dd,.call { callee:=.builtin .len,args:=#[x],argTypes:=#[t] },ty,ps,af,gd⟩ arg (.d (ex (.int .i64 (l.length:Nat)))):=Quiet.lenN (o:=⟨dd,.call { callee:=.builtin .len,args:=#[x],argTypes:=#[t] },ty,ps,af,gd⟩) rfl hx ht
theorem Qs.index0 {α : Type} {x y:Operand} {t:TypeId} {e n b n' b' T sz:Nat} {d:TypeDesc} {z z':Value} {f:α→List D} {a:α} {l:List α} {κ:IntKind} (hx:asD hp (arg x) = some (slD T sz ((a :: l).map f))) (hy:arg y = .d (ex (.int κ 0))) (ht:Tab P t (.slice e) n b z) (he:Tab P e d n' b' z') (hsz:n' = sz):Quiet P hp ⟨dd,.indexAddr t x y,ty,ps,af,gd⟩ arg (.d (epD T (f a))):=Quiet.index0 (o:=⟨dd,.indexAddr t x y,ty,ps,af,gd⟩) rfl hx hy ht he hsz
theorem Qs.tailN {α : Type} {x y:Operand} {t:TypeId} {e n b n' b' T sz:Nat} {d:TypeDesc} {z z':Value} {f:α→List D} {a:α} {l:List α} (hx:asD hp (arg x) = some (slD T sz ((a :: l).map f))) (hy:arg y = .d (ex (.int .i64 1))) (ht:Tab P t (.slice e) n b z) (he:Tab P e d n' b' z') (hsz:n' = sz):Quiet P hp ⟨dd,.slice t x (some y) none none,ty,ps,af,gd⟩ arg (.d (slD T sz (l.map f))):=Quiet.tailN (o:=⟨dd,.slice t x (some y) none none,ty,ps,af,gd⟩) rfl hx hy ht he hsz
theorem Qs.takeN {α : Type} {x y:Operand} {t:TypeId} {e n b n' b' T sz i:Nat} {d:TypeDesc} {z z':Value} {f:α→List D} {l:List α} (hx:asD hp (arg x) = some (slD T sz (l.map f))) (hy:arg y = .d (ex (.int .i64 (i:Nat)))) (ht:Tab P t (.slice e) n b z) (he:Tab P e d n' b' z') (hsz:n' = sz) (hi:i≤l.length):Quiet P hp ⟨dd,.slice t x none (some y) none,ty,ps,af,gd⟩ arg (.d (slD T sz ((l.take i).map f))):=Quiet.takeN (o:=⟨dd,.slice t x none (some y) none,ty,ps,af,gd⟩) rfl hx hy ht he hsz hi
theorem Qs.indexN {α : Type} [Inhabited α] {x y:Operand} {t:TypeId} {e n b n' b' T sz k:Nat} {d:TypeDesc} {z z':Value} {f:α→List D} {l:List α} {κ:IntKind} (hx:asD hp (arg x) = some (slD T sz (l.map f))) (hy:arg y = .d (ex (.int κ (k:Nat)))) (ht:Tab P t (.slice e) n b z) (he:Tab P e d n' b' z') (hsz:n' = sz) (hk:k<l.length):Quiet P hp ⟨dd,.indexAddr t x y,ty,ps,af,gd⟩ arg (.d (epD T (f (l.getD k default)))):=Quiet.indexN (o:=⟨dd,.indexAddr t x y,ty,ps,af,gd⟩) rfl hx hy ht he hsz hk
theorem Qs.add {T U:TypeId} {x y:Operand} {a b:Int} (hx:arg x = .d (ex (.int .i64 a))) (hy:arg y = .d (ex (.int .i64 b))) (h1:-9223372036854775808≤a+b) (h2:a+b≤9223372036854775807):Quiet P hp ⟨dd,.binOp .add T x y U,ty,ps,af,gd⟩ arg (.d (ex (.int .i64 (a+b)))):=Quiet.add (o:=⟨dd,.binOp .add T x y U,ty,ps,af,gd⟩) rfl hx hy h1 h2
theorem Qs.sub {T U:TypeId} {x y:Operand} {a b:Int} (hx:arg x = .d (ex (.int .i64 a))) (hy:arg y = .d (ex (.int .i64 b))) (h1:-9223372036854775808≤a - b) (h2:a - b≤9223372036854775807):Quiet P hp ⟨dd,.binOp .sub T x y U,ty,ps,af,gd⟩ arg (.d (ex (.int .i64 (a - b)))):=Quiet.sub (o:=⟨dd,.binOp .sub T x y U,ty,ps,af,gd⟩) rfl hx hy h1 h2
theorem Qs.succ {T U:TypeId} {x y:Operand} {a:Nat} (hx:arg x = .d (ex (.int .i64 (a:Nat)))) (hy:arg y = .d (ex (.int .i64 1))) (h1:(a:Int)<9223372036854775807):Quiet P hp ⟨dd,.binOp .add T x y U,ty,ps,af,gd⟩ arg (.d (ex (.int .i64 ((a+1:Nat):Int)))):=Quiet.succ (o:=⟨dd,.binOp .add T x y U,ty,ps,af,gd⟩) rfl hx hy h1
theorem Qs.rem {T U:TypeId} {x y:Operand} {k:IntKind} {a b:Int} (hx:arg x = .d (ex (.int k a))) (hy:arg y = .d (ex (.int k b))) (h0:0≤a) (hb:0<b):Quiet P hp ⟨dd,.binOp .rem T x y U,ty,ps,af,gd⟩ arg (.d (ex (.int k (a % b)))):=Quiet.rem (o:=⟨dd,.binOp .rem T x y U,ty,ps,af,gd⟩) rfl hx hy h0 hb
theorem Qs.remT {T U:TypeId} {x y:Operand} {k:IntKind} {a b:Int} (hx:arg x = .d (ex (.int k a))) (hy:arg y = .d (ex (.int k b))) (hb:b ≠ 0):Quiet P hp ⟨dd,.binOp .rem T x y U,ty,ps,af,gd⟩ arg (.d (ex (.int k (a.tmod b)))):=Quiet.remT (o:=⟨dd,.binOp .rem T x y U,ty,ps,af,gd⟩) rfl hx hy hb
theorem Qs.cmp {op : BinOp} {T U:TypeId} {x y:Operand} {k:IntKind} {a b:Int} {c:Bool} (hx:arg x = .d (ex (.int k a))) (hy:arg y = .d (ex (.int k b))) (hc:cmpB op a b = some c):Quiet P hp ⟨dd,.binOp op T x y U,ty,ps,af,gd⟩ arg (.d (ex (.bool c))):=Quiet.cmp (o:=⟨dd,.binOp op T x y U,ty,ps,af,gd⟩) rfl hx hy hc
theorem Qs.cmpT {op : BinOp} {T U:TypeId} {x y:Operand} {k:IntKind} {a b:Int} (hb:isCmp op = true) (hx:arg x = .d (ex (.int k a))) (hy:arg y = .d (ex (.int k b))) (hc:cmpP op a b):Quiet P hp ⟨dd,.binOp op T x y U,ty,ps,af,gd⟩ arg (.d (ex (.bool true))):=Quiet.cmpT (o:=⟨dd,.binOp op T x y U,ty,ps,af,gd⟩) rfl hb hx hy hc
theorem Qs.cmpF {op : BinOp} {T U:TypeId} {x y:Operand} {k:IntKind} {a b:Int} (hb:isCmp op = true) (hx:arg x = .d (ex (.int k a))) (hy:arg y = .d (ex (.int k b))) (hc:¬ cmpP op a b):Quiet P hp ⟨dd,.binOp op T x y U,ty,ps,af,gd⟩ arg (.d (ex (.bool false))):=Quiet.cmpF (o:=⟨dd,.binOp op T x y U,ty,ps,af,gd⟩) rfl hb hx hy hc
theorem Qs.not {T : TypeId} {x:Operand} {a:Bool} (hx:arg x = .d (ex (.bool a))):Quiet P hp ⟨dd,.unOp .not T x,ty,ps,af,gd⟩ arg (.d (ex (.bool (!a)))):=Quiet.not (o:=⟨dd,.unOp .not T x,ty,ps,af,gd⟩) rfl hx
theorem Qs.pickT {c x y:Operand} {r:AV} (hx:arg x = r) (hc:arg c = .d (ex (.bool true))):Quiet P hp ⟨dd,.pick c x y,ty,ps,af,gd⟩ arg r:=Quiet.pickT (o:=⟨dd,.pick c x y,ty,ps,af,gd⟩) rfl hx hc
theorem Qs.pickF {c x y:Operand} {r:AV} (hy:arg y = r) (hc:arg c = .d (ex (.bool false))):Quiet P hp ⟨dd,.pick c x y,ty,ps,af,gd⟩ arg r:=Quiet.pickF (o:=⟨dd,.pick c x y,ty,ps,af,gd⟩) rfl hy hc
theorem Qs.conv {S T:TypeId} {x:Operand} {k k':IntKind} {a:Int} {d:TypeDesc} {n b n' b':Nat} {z z':Value} (hx:arg x = .d (ex (.int k a))) (hS:Tab P S d n b z) (hT:Tab P T (.int k') n' b' z'):Quiet P hp ⟨dd,.convert S T x,ty,ps,af,gd⟩ arg (.d (ex (.int k' (k'.wrap a)))):=Quiet.conv (o:=⟨dd,.convert S T x,ty,ps,af,gd⟩) rfl hx hS hT
theorem Qs.fldE {x : Operand} {S:TypeId} {fs:Array Field} {f n b n' b' T:Nat} {fd:Field} {d:TypeDesc} {z z':Value} {ds r:List D} (hx:arg x = .d (epD T ds)) (hS:Tab P S (.struct fs) n b z) (hf:fs[f]? = some fd) (he:Tab P fd.type d n' b' z') (hn:Nat.beq n' 0 = false) (hr:dropO fd.offset ds = some r):Quiet P hp ⟨dd,.fieldAddr S x f,ty,ps,af,gd⟩ arg (.d (epD T r)):=Quiet.fldE (o:=⟨dd,.fieldAddr S x f,ty,ps,af,gd⟩) rfl hx hS hf he hn hr
theorem Qs.fldP {x : Operand} {S:TypeId} {fs:Array Field} {f n b n' b' id off:Nat} {fd:Field} {d:TypeDesc} {z z':Value} (hx:arg x = .ptr id off) (hS:Tab P S (.struct fs) n b z) (hf:fs[f]? = some fd) (he:Tab P fd.type d n' b' z') (hn:Nat.beq n' 0 = false):Quiet P hp ⟨dd,.fieldAddr S x f,ty,ps,af,gd⟩ arg (.ptr id (off+fd.offset)):=Quiet.fldP (o:=⟨dd,.fieldAddr S x f,ty,ps,af,gd⟩) rfl hx hS hf he hn
theorem Qs.ldD {x : Operand} {t:TypeId} {d:TypeDesc} {n b T id off:Nat} {z:Value} {ds r:List D} (hx:arg x = .ptr id off) (hh:hp[id]? = some (.var T (ds.map .d))) (ht:Tab P t d n b z) (hd:isAg d = true) (hr:subO off n ds = some r):Quiet P hp ⟨dd,.load t x,ty,ps,af,gd⟩ arg (.d (agD r)):=Quiet.ldD (o:=⟨dd,.load t x,ty,ps,af,gd⟩) rfl hx hh ht hd hr
theorem Qs.ldD1 {x : Operand} {t:TypeId} {d:TypeDesc} {n b T id off:Nat} {z:Value} {ds:List D} {r:D} (hx:arg x = .ptr id off) (hh:hp[id]? = some (.var T (ds.map .d))) (ht:Tab P t d n b z) (hd:isAg d = false) (hr:atO off ds = some r):Quiet P hp ⟨dd,.load t x,ty,ps,af,gd⟩ arg (.d r):=Quiet.ldD1 (o:=⟨dd,.load t x,ty,ps,af,gd⟩) rfl hx hh ht hd hr
theorem Qs.loadEf {x : Operand} {t:TypeId} {d:TypeDesc} {n b T:Nat} {z:Value} {ds:List D} (hx:arg x = .d (epD T ds)) (ht:Tab P t d n b z) (hd:isAg d = true) (hn:ds.length = n):Quiet P hp ⟨dd,.load t x,ty,ps,af,gd⟩ arg (.d (agD ds)):=Quiet.loadEf (o:=⟨dd,.load t x,ty,ps,af,gd⟩) rfl hx ht hd hn
theorem Qs.ldE {x : Operand} {t:TypeId} {d:TypeDesc} {n b T:Nat} {z:Value} {ds r:List D} (hx:arg x = .d (epD T ds)) (ht:Tab P t d n b z) (hd:isAg d = true) (hr:takeO n ds = some r):Quiet P hp ⟨dd,.load t x,ty,ps,af,gd⟩ arg (.d (agD r)):=Quiet.ldE (o:=⟨dd,.load t x,ty,ps,af,gd⟩) rfl hx ht hd hr
theorem Qs.ldE1 {x : Operand} {t:TypeId} {d:TypeDesc} {n b T:Nat} {z:Value} {ds:List D} {r:D} (hx:arg x = .d (epD T ds)) (ht:Tab P t d n b z) (hd:isAg d = false) (hr:atO 0 ds = some r):Quiet P hp ⟨dd,.load t x,ty,ps,af,gd⟩ arg (.d r):=Quiet.ldE1 (o:=⟨dd,.load t x,ty,ps,af,gd⟩) rfl hx ht hd hr
theorem Qs.ext {x : Operand} {i:Nat} {ds:List D} {r:D} (hx:arg x = .d (tupD ds)) (hr:atO i ds = some r):Quiet P hp ⟨dd,.extract x i,ty,ps,af,gd⟩ arg (.d r):=Quiet.ext (o:=⟨dd,.extract x i,ty,ps,af,gd⟩) rfl hx hr
theorem Qs.build {t : TypeId} {fs:Array Field} {n b:Nat} {z:Value} {parts:List (Nat × Operand)} {pl:List (Nat × Nat)} {r:List (Nat × List D)} {ds:List D} (ht:Tab P t (.struct fs) n b z) (hpl:FieldsT P fs.toList pl) (h1:one1 z.cells.toList = true) (hr:PartsA hp arg parts r) (hf:fillD (fun i=>pl[i]?) (exD' z.cells.toList) r = some ds):Quiet P hp ⟨dd,.build t parts.toArray,ty,ps,af,gd⟩ arg (.d (agD ds)):=Quiet.build (o:=⟨dd,.build t parts.toArray,ty,ps,af,gd⟩) rfl ht hpl h1 hr hf
theorem Qs.buildArr {t e:TypeId} {len n b n' b':Nat} {z z':Value} {d:TypeDesc} {parts:List (Nat × Operand)} {r:List (Nat × List D)} {ds:List D} (ht:Tab P t (.array len e) n b z) (he:Tab P e d n' b' z') (h1:one1 z.cells.toList = true) (hr:PartsA hp arg parts r) (hf:fillD (fun i=>some (i*n',n')) (exD' z.cells.toList) r = some ds):Quiet P hp ⟨dd,.build t parts.toArray,ty,ps,af,gd⟩ arg (.d (agD ds)):=Quiet.buildArr (o:=⟨dd,.build t parts.toArray,ty,ps,af,gd⟩) rfl ht he h1 hr hf
theorem Qs.buildSlice {t e:TypeId} {len n b n' b':Nat} {z z':Value} {d:TypeDesc} {parts:List (Nat × Operand)} {r:List (Nat × List D)} {ds:List D} (ht:Tab P t (.slice e) n b z) (he:Tab P e d n' b' z') (hlen:0<len) (hn:0<n') (hz:z'.cells.size = n') (h24:len*n'≤16777216) (h1:one1 z'.cells.toList = true) (hr:PartsA hp arg parts r) (hf:fillD (fun i=>some (i*n',n')) (List.replicate (len*n') anyD) r = some ds):Quiet P hp ⟨dd,.buildSlice t len parts.toArray,ty,ps,af,gd⟩ arg (.d (slD e n' (chunks n' len ds))):=Quiet.buildSlice (o:=⟨dd,.buildSlice t len parts.toArray,ty,ps,af,gd⟩) rfl ht he hlen hn hz h24 h1 hr hf
theorem Qs.max {x y:Operand} {tys:Array TypeId} {k:IntKind} {a b:Int} (hx:arg x = .d (ex (.int k a))) (hy:arg y = .d (ex (.int k b))):Quiet P hp ⟨dd,.call { callee:=.builtin .max,args:=#[x,y],argTypes:=tys },ty,ps,af,gd⟩ arg (.d (ex (.int k (Max.max a b)))):=Quiet.max (o:=⟨dd,.call { callee:=.builtin .max,args:=#[x,y],argTypes:=tys },ty,ps,af,gd⟩) rfl hx hy
theorem Qs.call {f : Operand} {args:List Operand} {tys:Array TypeId} {fid:FuncId} {ds:List D} {r:D} (hf:arg f = .d (ex (.func (.func fid) #[] #[]))) (hc:Abs P fid ds r) (ha:ArgsLe hp arg args ds):Quiet P hp ⟨dd,.call { callee:=.value f,args:=args.toArray,argTypes:=tys },ty,ps,af,gd⟩ arg (.d r):=Quiet.call (o:=⟨dd,.call { callee:=.value f,args:=args.toArray,argTypes:=tys },ty,ps,af,gd⟩) rfl hf hc ha
theorem Qs.move {x : Operand} {r:AV} (hx:arg x = r):Quiet P hp ⟨dd,.move x,ty,ps,af,gd⟩ arg r:=Quiet.move (.inl rfl) hx
theorem Qs.assign {x : Operand} {r:AV} (hx:arg x = r):Quiet P hp ⟨dd,.assign x,ty,ps,af,gd⟩ arg r:=Quiet.move (.inr rfl) hx
end
section
variable {P : Program} {s0:An} {n:Nat} {ops:Array Oper} {Q:Exit→AS→Prop} {rest:List Oper} {fr:List (Nat × AV)} {hp:List Ow} {ty:TypeId} {ps:String} {af:Array Edge}
theorem AWs.al {T : TypeId} {d:TypeDesc} {m b k t:Nat} {z:Value} {c:List D} {hp':List Ow} (ht:Tab P T d m b z) (hT:Nat.beq T 139 = false) (h1:one1 z.cells.toList = true) (hd:Nat.blt t n = true) (hc:exO z.cells.toList = some c) (hk:lenO hp = some k) (hs:snocO hp (.var T (c.map .d)) = some hp') (h:AWl P s0 n ops Q rest ⟨(t,.ptr k 0) :: fr,hp'⟩):AWl P s0 n ops Q (⟨some t,.alloc T,ty,ps,af,none⟩ :: rest) ⟨fr,hp⟩:=AWl.al (o:=⟨some t,.alloc T,ty,ps,af,none⟩) rfl rfl rfl ht hT h1 hd hc hk hs h
theorem AWs.bx {T : TypeId} {x:Operand} {ds:List D} {k t:Nat} {hp':List Ow} (hx:AS.arg ⟨fr,hp⟩ x = .d (agD ds)) (hT:Nat.beq T 139 = false) (hd:Nat.blt t n = true) (hk:lenO hp = some k) (hs:snocO hp (.var T (ds.map .d)) = some hp') (h:AWl P s0 n ops Q rest ⟨(t,.ptr k 0) :: fr,hp'⟩):AWl P s0 n ops Q (⟨some t,.box T x,ty,ps,af,none⟩ :: rest) ⟨fr,hp⟩:=AWl.bx (o:=⟨some t,.box T x,ty,ps,af,none⟩) rfl rfl rfl hx hT hd hk hs h
theorem AWs.stF {T T0:TypeId} {d:TypeDesc} {b id m:Nat} {z:Value} {x y:Operand} {cells:List AV} {ds:List D} {hp':List Ow} (hx:AS.arg ⟨fr,hp⟩ x = .ptr id 0) (hy:AS.arg ⟨fr,hp⟩ y = .d (agD ds)) (hh:hp[id]? = some (.var T0 cells)) (ht:Tab P T d m b z) (hm:ds.length = m) (hoff:cells.length = m) (hs:setO hp id (.var T0 (ds.map .d)) = some hp') (h:AWl P s0 n ops Q rest ⟨fr,hp'⟩):AWl P s0 n ops Q (⟨none,.store T x y,ty,ps,af,none⟩ :: rest) ⟨fr,hp⟩:=AWl.stF (o:=⟨none,.store T x y,ty,ps,af,none⟩) rfl rfl rfl hx hy hh ht hm hoff hs h
theorem AWs.stD1 {T T0:TypeId} {d:TypeDesc} {b id off:Nat} {z:Value} {x y:Operand} {cs cs':List D} {u:D} {hp':List Ow} (hx:AS.arg ⟨fr,hp⟩ x = .ptr id off) (hy:AS.arg ⟨fr,hp⟩ y = .d u) (hh:hp[id]? = some (.var T0 (cs.map .d))) (ht:Tab P T d 1 b z) (h1:One hp (.d u)) (hc:splO cs off [u] = some cs') (hs:setO hp id (.var T0 (cs'.map .d)) = some hp') (h:AWl P s0 n ops Q rest ⟨fr,hp'⟩):AWl P s0 n ops Q (⟨none,.store T x y,ty,ps,af,none⟩ :: rest) ⟨fr,hp⟩:=AWl.stD1 (o:=⟨none,.store T x y,ty,ps,af,none⟩) rfl rfl rfl hx hy hh ht h1 hc hs h
theorem AWs.app {x y:Operand} {t T T2 sz bytes id m b e:Nat} {z z':Value} {d:TypeDesc} {rows r2:List (List D)} {fr':List (Nat × AV)} {hp':List Ow} (hx:AS.arg ⟨fr,hp⟩ x = .own id) (hy:asD hp (AS.arg ⟨fr,hp⟩ y) = some (slD T2 sz r2)) (hh:hp[id]? = some (.row T sz rows)) (ht:Tab P t (.slice T) m b z') (hT:Tab P T d sz bytes z) (hzs:z.cells.size = sz) (hd:Nat.blt e n = true) (hbytes:(rows.length+r2.length)*bytes≤140737488355328) (h63:rows.length+r2.length≤4611686018427387904) (hf:downO id (slD T sz rows) fr = some fr') (hpl:PlainHp id hp) (hs:setO hp id (.row T sz (rows ++ r2)) = some hp') (h:AWl P s0 n ops Q rest ⟨(e,.own id) :: fr',hp'⟩):AWl P s0 n ops Q (⟨some e,.call { callee:=.builtin .append,args:=#[x,y],argTypes:=#[t,t] },ty,ps,af,none⟩ :: rest) ⟨fr,hp⟩:=AWl.app (o:=⟨some e,.call { callee:=.builtin .append,args:=#[x,y],argTypes:=#[t,t] },ty,ps,af,none⟩) rfl rfl rfl hx hy hh ht hT hzs hd hbytes h63 hf hpl hs h
theorem AWs.b0 {t T m b sz bytes k e:Nat} {z z':Value} {d:TypeDesc} {hp':List Ow} (ht:Tab P t (.slice T) m b z') (hT:Tab P T d sz bytes z) (hT32:Nat.beq T 139 = false) (h0:Nat.blt 0 sz = true) (hd:Nat.blt e n = true) (hk:lenO hp = some k) (hs:snocO hp (.row T sz []) = some hp') (h:AWl P s0 n ops Q rest ⟨(e,.own k) :: fr,hp'⟩):AWl P s0 n ops Q (⟨some e,.buildSlice t 0 #[],ty,ps,af,none⟩ :: rest) ⟨fr,hp⟩:=AWl.b0 (o:=⟨some e,.buildSlice t 0 #[],ty,ps,af,none⟩) rfl rfl rfl ht hT hT32 h0 hd hk hs h
theorem AWs.mk0 {t T m b sz bytes k e:Nat} {z z':Value} {d:TypeDesc} {x y:Operand} {c:Int} {hp':List Ow} (hx:AS.arg ⟨fr,hp⟩ x = .d (ex (.int .i64 0))) (hy:AS.arg ⟨fr,hp⟩ y = .d (ex (.int .i64 c))) (ht:Tab P t (.slice T) m b z') (hT:Tab P T d sz bytes z) (hc0:0≤c) (hc:c≤1000000000) (hbytes:Nat.ble bytes 65536 = true) (hT32:Nat.beq T 139 = false) (h0:Nat.blt 0 sz = true) (hd:Nat.blt e n = true) (hk:lenO hp = some k) (hs:snocO hp (.row T sz []) = some hp') (h:AWl P s0 n ops Q rest ⟨(e,.own k) :: fr,hp'⟩):AWl P s0 n ops Q (⟨some e,.makeSlice t x y,ty,ps,af,none⟩ :: rest) ⟨fr,hp⟩:=AWl.mk0 (o:=⟨some e,.makeSlice t x y,ty,ps,af,none⟩) rfl rfl rfl hx hy ht hT hc0 hc hbytes hT32 h0 hd hk hs h
theorem AWs.q {d : Nat} {op:Op} (hs:notSelect op = true) (hd:Nat.blt d n = true) (h:∃ r,Quiet P hp ⟨some d,op,ty,ps,af,none⟩ (AS.arg ⟨fr,hp⟩) r∧AWl P s0 n ops Q rest ⟨(d,r) :: fr,hp⟩):AWl P s0 n ops Q (⟨some d,op,ty,ps,af,none⟩ :: rest) ⟨fr,hp⟩:=AWl.q' rfl rfl hs hd h
theorem AWs.qG {d : Nat} {op:Op} {j:Nat} {b:Bool} {e:Nat} (hy:(ops[j]?).bind (·.dst) = some e) (hl:look fr e = some (.d (ex (.bool b)))) (hen:Nat.blt e n = true) (hs:notSelect op = true) (hd:Nat.blt d n = true) (h:∃ r,Quiet P hp ⟨some d,op,ty,ps,af,some (j,b)⟩ (AS.arg ⟨fr,hp⟩) r∧AWl P s0 n ops Q rest ⟨(d,r) :: fr,hp⟩):AWl P s0 n ops Q (⟨some d,op,ty,ps,af,some (j,b)⟩ :: rest) ⟨fr,hp⟩:=AWl.qG' rfl hy hl hen rfl hs hd h
theorem AWs.sG {d : Nat} {op:Op} {j:Nat} {b:Bool} {u:Value} {e:Nat} (hy:(ops[j]?).bind (·.dst) = some e) (hl:look fr e = some (.d (ex u))) (hne:isB u b = false) (hen:Nat.blt e n = true) (hd:Nat.blt d n = true) (h:AWl P s0 n ops Q rest ⟨(d,.d (ex undef)) :: fr,hp⟩):AWl P s0 n ops Q (⟨some d,op,ty,ps,af,some (j,b)⟩ :: rest) ⟨fr,hp⟩:=AWl.sG rfl hy hl hne hen rfl hd h
end
def plO : List Field→Option (List (Nat × Nat))
 | []=>some []
 | f :: l=>match tlook tyTab f.type with
  | some p=>match plO l with
   | some r=>some ((f.offset,p.n) :: r)
   | none=>none
  | none=>none
theorem plO_ok : ∀ {l:List Field} {r:List (Nat × Nat)},plO l = some r→FieldsT Tryz.prog l r
 | [],r,h=>by cases h;exact FieldsT.nil
 | f :: l,r,h=>by
  unfold plO at h
  cases ht:tlook tyTab f.type with
  | none=>rw [ht] at h;cases h
  | some p =>
   rw [ht] at h
   simp only at h
   cases hr:plO l with
   | none=>rw [hr] at h;cases h
   | some r' =>
    rw [hr] at h
    cases h
    obtain ⟨h1,h2⟩:=tlook_ok tab_all ht
    rw [h1] at h2
    exact FieldsT.cons h2 (plO_ok hr)
def PartOk (hp : List Ow) (av:AV) (es:List D):Prop:=av = .d (agD es)∨∃ y,asD hp av = some y∧One hp av∧es = [y]
theorem PartOk.ag {hp : List Ow} {av:AV} {es:List D} (h:av = .d (agD es)):PartOk hp av es:=.inl h
theorem PartOk.one {hp : List Ow} {av:AV} {y:D} (h:asD hp av = some y) (h1:One hp av):PartOk hp av [y]:=.inr ⟨y,h,h1,rfl⟩
def snocP : List (Nat × List D)→Nat × List D→Option (List (Nat × List D))
 | [],x=>some [x]
 | o :: l,x=>match snocP l x with
  | some r=>some (o :: r)
  | none=>none
theorem snocP_eq : ∀ {l:List (Nat × List D)} {x:Nat × List D} {r:List (Nat × List D)},snocP l x = some r→r = l ++ [x]
 | [],x,r,h=>by cases h;rfl
 | o :: l,x,r,h=>by
  unfold snocP at h
  split at h
  ·rename_i r' h'
   cases h
   rw [snocP_eq h']
   rfl
  ·cases h
def PC (hp : List Ow) (arg:Operand→AV) (K:List (Nat × List D)→Prop):List (Nat × List D)→List (Nat × Operand)→Prop
 | acc,[]=>K acc
 | acc,(i,x) :: l=>∃ es,PartOk hp (arg x) es∧∃ acc',snocP acc (i,es) = some acc'∧PC hp arg K acc' l
theorem PC.parts {hp : List Ow} {arg:Operand→AV} {K:List (Nat × List D)→Prop}:∀ {l:List (Nat × Operand)} {acc:List (Nat × List D)},PC hp arg K acc l→∃ r,PartsA hp arg l r∧K (acc ++ r)
 | [],acc,h=>⟨[],PartsA.nil,by rw [List.append_nil];exact h⟩
 | (i,x) :: l,acc,⟨es,h1,acc',h2,h3⟩=>by
  have e:=snocP_eq h2
  subst e
  obtain ⟨r,h4,h5⟩:=PC.parts h3
  rw [List.append_assoc,List.singleton_append] at h5
  exact ⟨(i,es) :: r,⟨rfl,h1,h4⟩,h5⟩
def fillO (place : Nat→Option (Nat × Nat)):List D→List (Nat × List D)→Option (List D)
 | ds,[]=>some ds
 | ds,(i,es) :: r=>match place i with
  | some (off,size)=>bif Nat.beq es.length size then match splO ds off es with
   | some ds'=>fillO place ds' r
   | none=>none else none
  | none=>none
theorem fillO_eq {place : Nat→Option (Nat × Nat)}:∀ {r:List (Nat × List D)} {ds x:List D},fillO place ds r = some x→fillD place ds r = some x
 | [],ds,x,h=>h
 | (i,es) :: r,ds,x,h=>by
  unfold fillO at h
  unfold fillD
  cases hp:place i with
  | none=>rw [hp] at h;cases h
  | some q =>
   obtain ⟨off,size⟩:=q
   rw [hp] at h
   simp only at h ⊢
   cases hb:Nat.beq es.length size with
   | false=>rw [hb] at h;cases h
   | true =>
    rw [hb] at h
    simp only [cond_true] at h
    cases hs:splO ds off es with
    | none=>rw [hs] at h;cases h
    | some ds' =>
     rw [hs] at h
     obtain ⟨e1,e2⟩:=splO_eq hs
     have e3:=Nat.eq_of_beq_eq_true hb
     have e4:Nat.ble (off+size) ds.length = true:=Nat.ble_eq_true_of_le (by omega)
     rw [e4,← e1]
     exact fillO_eq h
section
variable {P : Program} {hp:List Ow} {arg:Operand→AV} {dd:Option Tmp} {ty:TypeId} {ps:String} {af:Array Edge} {gd:Option (Nat × Bool)}
theorem Bq.build {t : TypeId} {fs:Array Field} {n b:Nat} {z:Value} {parts:List (Nat × Operand)} {pl:List (Nat × Nat)} {zs:List D} {R:AV→Prop} (ht:Tab Tryz.prog t (.struct fs) n b z) (hpl:plO fs.toList = some pl) (h1:one1 z.cells.toList = true) (hz:exO z.cells.toList = some zs) (h:PC hp arg (fun r=>∃ ds,fillO (fun i=>pl[i]?) zs r = some ds∧R (.d (agD ds))) [] parts):∃ r,Quiet Tryz.prog hp ⟨dd,.build t parts.toArray,ty,ps,af,gd⟩ arg r∧R r:=by
 obtain ⟨r,h2,ds,h3,h4⟩:=PC.parts h
 rw [exO_eq hz] at h3
 exact ⟨_,Qs.build ht (plO_ok hpl) h1 h2 (fillO_eq h3),h4⟩
theorem Bq.arr {t e:TypeId} {len n b n' b':Nat} {z z':Value} {d:TypeDesc} {parts:List (Nat × Operand)} {zs:List D} {R:AV→Prop} (ht:Tab P t (.array len e) n b z) (he:Tab P e d n' b' z') (h1:one1 z.cells.toList = true) (hz:exO z.cells.toList = some zs) (h:PC hp arg (fun r=>∃ ds,fillO (fun i=>some (i*n',n')) zs r = some ds∧R (.d (agD ds))) [] parts):∃ r,Quiet P hp ⟨dd,.build t parts.toArray,ty,ps,af,gd⟩ arg r∧R r:=by
 obtain ⟨r,h2,ds,h3,h4⟩:=PC.parts h
 rw [exO_eq hz] at h3
 exact ⟨_,Qs.buildArr ht he h1 h2 (fillO_eq h3),h4⟩
theorem Bq.slice {t e:TypeId} {len n b n' b':Nat} {z z':Value} {d:TypeDesc} {parts:List (Nat × Operand)} {R:AV→Prop} (ht:Tab P t (.slice e) n b z) (he:Tab P e d n' b' z') (hlen:Nat.blt 0 len = true) (hn:Nat.blt 0 n' = true) (hz:z'.cells.size = n') (h24:Nat.ble (len*n') 16777216 = true) (h1:one1 z'.cells.toList = true) (h:PC hp arg (fun r=>∃ ds,fillO (fun i=>some (i*n',n')) (List.replicate (len*n') anyD) r = some ds∧R (.d (slD e n' (chunks n' len ds)))) [] parts):∃ r,Quiet P hp ⟨dd,.buildSlice t len parts.toArray,ty,ps,af,gd⟩ arg r∧R r:=by
 obtain ⟨r,h2,ds,h3,h4⟩:=PC.parts h
 exact ⟨_,Qs.buildSlice ht he (by simpa [Nat.blt_eq] using hlen) (by simpa [Nat.blt_eq] using hn) hz (Nat.le_of_ble_eq_true h24) h1 h2 (fillO_eq h3),h4⟩
theorem Bq.slice1 {t e:TypeId} {n b n' b':Nat} {z z':Value} {d:TypeDesc} {x:Operand} {es:List D} (hx:arg x = .d (agD es)) (ht:Tab P t (.slice e) n b z) (he:Tab P e d n' b' z') (hl:es.length = n') (hn:Nat.blt 0 n' = true) (hz:z'.cells.size = n') (h24:Nat.ble n' 16777216 = true) (h1:one1 z'.cells.toList = true):Quiet P hp ⟨dd,.buildSlice t 1 #[(0,x)],ty,ps,af,gd⟩ arg (.d (slD e n' [es])):=by
 have hb:(Nat.beq es.length n' && Nat.ble (0*n'+n') (List.replicate (1*n') anyD).length) = true:=by
  simp [hl]
 have hf:fillD (fun i=>some (i*n',n')) (List.replicate (1*n') anyD) [(0,es)] = some es:=by
  simp only [fillD]
  rw [hb]
  simp only [cond_true,spl,Option.some.injEq]
  rw [Nat.zero_mul,List.take_zero,List.nil_append,List.drop_eq_nil_of_le (by simp [hl]),List.append_nil]
 have h:=Qs.buildSlice (P:=P) (hp:=hp) (dd:=dd) (ty:=ty) (ps:=ps) (af:=af) (gd:=gd) (len:=1) (parts:=[(0,x)]) (r:=[(0,es)]) ht he (by omega) (by simpa [Nat.blt_eq] using hn) hz (by have:=Nat.le_of_ble_eq_true h24;omega) h1 (PartsA.ag hx PartsA.nil) hf
 have e1:chunks n' 1 es = [es]:=by
  simp only [chunks]
  rw [← hl,List.take_length]
 rwa [e1] at h
theorem Hq {σ : AS} {acc:List HR} {e:List (Nat × Nat)} {o:Oper} {R:HR→Prop} (hg:o.guard = none) (h:∃ r,Quiet P σ.hp o (argH σ acc e) r∧R (.av r)):∃ r,HStep P σ acc e o r∧R r:=by
 obtain ⟨r,h1,h2⟩:=h
 exact ⟨_,HStep.q hg h1,h2⟩
end
section
variable {P : Program} {s0:An} {m:Nat} {ops:Array Oper} {Q:Exit→AS→Prop} {rest:List Oper} {σ:AS} {hp:List Ow} {arg:Operand→AV} {dd:Option Tmp} {ty:TypeId} {ps:String} {af:Array Edge} {gd:Option (Nat × Bool)} {R:AV→Prop} {H:HR→Prop} {acc:List HR} {e:List (Nat × Nat)}
theorem Gt.move {x : Operand} (h:∃ r,Quiet P hp ⟨dd,.move x,ty,ps,af,gd⟩ arg r∧R r):∃ r,Quiet P hp ⟨dd,.move x,ty,ps,af,gd⟩ arg r∧R r:=h
theorem Gh.move {x : Operand} (h:∃ r,HStep P σ acc e ⟨dd,.move x,ty,ps,af,gd⟩ r∧H r):∃ r,HStep P σ acc e ⟨dd,.move x,ty,ps,af,gd⟩ r∧H r:=h
theorem Gt.assign {x : Operand} (h:∃ r,Quiet P hp ⟨dd,.assign x,ty,ps,af,gd⟩ arg r∧R r):∃ r,Quiet P hp ⟨dd,.assign x,ty,ps,af,gd⟩ arg r∧R r:=h
theorem Gt.load {t : TypeId} {x:Operand} (h:∃ r,Quiet P hp ⟨dd,.load t x,ty,ps,af,gd⟩ arg r∧R r):∃ r,Quiet P hp ⟨dd,.load t x,ty,ps,af,gd⟩ arg r∧R r:=h
theorem Gh.load {t : TypeId} {x:Operand} (h:∃ r,HStep P σ acc e ⟨dd,.load t x,ty,ps,af,gd⟩ r∧H r):∃ r,HStep P σ acc e ⟨dd,.load t x,ty,ps,af,gd⟩ r∧H r:=h
theorem Gt.fieldAddr {t f:Nat} {x:Operand} (h:∃ r,Quiet P hp ⟨dd,.fieldAddr t x f,ty,ps,af,gd⟩ arg r∧R r):∃ r,Quiet P hp ⟨dd,.fieldAddr t x f,ty,ps,af,gd⟩ arg r∧R r:=h
theorem Gh.fieldAddr {t f:Nat} {x:Operand} (h:∃ r,HStep P σ acc e ⟨dd,.fieldAddr t x f,ty,ps,af,gd⟩ r∧H r):∃ r,HStep P σ acc e ⟨dd,.fieldAddr t x f,ty,ps,af,gd⟩ r∧H r:=h
theorem Gt.indexAddr {t : TypeId} {x y:Operand} (h:∃ r,Quiet P hp ⟨dd,.indexAddr t x y,ty,ps,af,gd⟩ arg r∧R r):∃ r,Quiet P hp ⟨dd,.indexAddr t x y,ty,ps,af,gd⟩ arg r∧R r:=h
theorem Gh.indexAddr {t : TypeId} {x y:Operand} (h:∃ r,HStep P σ acc e ⟨dd,.indexAddr t x y,ty,ps,af,gd⟩ r∧H r):∃ r,HStep P σ acc e ⟨dd,.indexAddr t x y,ty,ps,af,gd⟩ r∧H r:=h
theorem Gt.len {l : Array Operand} {ts:Array TypeId} (h:∃ r,Quiet P hp ⟨dd,.call { callee:=.builtin .len,args:=l,argTypes:=ts },ty,ps,af,gd⟩ arg r∧R r):∃ r,Quiet P hp ⟨dd,.call { callee:=.builtin .len,args:=l,argTypes:=ts },ty,ps,af,gd⟩ arg r∧R r:=h
theorem Gt.callv {f : Operand} {l:Array Operand} {ts:Array TypeId} (h:∃ r,Quiet P hp ⟨dd,.call { callee:=.value f,args:=l,argTypes:=ts },ty,ps,af,gd⟩ arg r∧R r):∃ r,Quiet P hp ⟨dd,.call { callee:=.value f,args:=l,argTypes:=ts },ty,ps,af,gd⟩ arg r∧R r:=h
theorem Gh.callv {f : Operand} {l:Array Operand} {ts:Array TypeId} (h:∃ r,HStep P σ acc e ⟨dd,.call { callee:=.value f,args:=l,argTypes:=ts },ty,ps,af,gd⟩ r∧H r):∃ r,HStep P σ acc e ⟨dd,.call { callee:=.value f,args:=l,argTypes:=ts },ty,ps,af,gd⟩ r∧H r:=h
theorem Gt.add {t u:TypeId} {x y:Operand} (h:∃ r,Quiet P hp ⟨dd,.binOp .add t x y u,ty,ps,af,gd⟩ arg r∧R r):∃ r,Quiet P hp ⟨dd,.binOp .add t x y u,ty,ps,af,gd⟩ arg r∧R r:=h
theorem Gt.sub {t u:TypeId} {x y:Operand} (h:∃ r,Quiet P hp ⟨dd,.binOp .sub t x y u,ty,ps,af,gd⟩ arg r∧R r):∃ r,Quiet P hp ⟨dd,.binOp .sub t x y u,ty,ps,af,gd⟩ arg r∧R r:=h
theorem Gt.rem {t u:TypeId} {x y:Operand} (h:∃ r,Quiet P hp ⟨dd,.binOp .rem t x y u,ty,ps,af,gd⟩ arg r∧R r):∃ r,Quiet P hp ⟨dd,.binOp .rem t x y u,ty,ps,af,gd⟩ arg r∧R r:=h
theorem Gh.rem {t u:TypeId} {x y:Operand} (h:∃ r,HStep P σ acc e ⟨dd,.binOp .rem t x y u,ty,ps,af,gd⟩ r∧H r):∃ r,HStep P σ acc e ⟨dd,.binOp .rem t x y u,ty,ps,af,gd⟩ r∧H r:=h
theorem Gt.bin {op : BinOp} {t u:TypeId} {x y:Operand} (h:∃ r,Quiet P hp ⟨dd,.binOp op t x y u,ty,ps,af,gd⟩ arg r∧R r):∃ r,Quiet P hp ⟨dd,.binOp op t x y u,ty,ps,af,gd⟩ arg r∧R r:=h
theorem Gt.ext {x : Operand} {i:Nat} (h:∃ r,Quiet P hp ⟨dd,.extract x i,ty,ps,af,gd⟩ arg r∧R r):∃ r,Quiet P hp ⟨dd,.extract x i,ty,ps,af,gd⟩ arg r∧R r:=h
theorem Gh.ext {x : Operand} {i:Nat} (h:∃ r,HStep P σ acc e ⟨dd,.extract x i,ty,ps,af,gd⟩ r∧H r):∃ r,HStep P σ acc e ⟨dd,.extract x i,ty,ps,af,gd⟩ r∧H r:=h
theorem Gt.pick {c x y:Operand} (h:∃ r,Quiet P hp ⟨dd,.pick c x y,ty,ps,af,gd⟩ arg r∧R r):∃ r,Quiet P hp ⟨dd,.pick c x y,ty,ps,af,gd⟩ arg r∧R r:=h
theorem Gt.build {t : TypeId} {pp:Array (Nat × Operand)} (h:∃ r,Quiet P hp ⟨dd,.build t pp,ty,ps,af,gd⟩ arg r∧R r):∃ r,Quiet P hp ⟨dd,.build t pp,ty,ps,af,gd⟩ arg r∧R r:=h
theorem Gh.build {t : TypeId} {pp:Array (Nat × Operand)} (h:∃ r,HStep P σ acc e ⟨dd,.build t pp,ty,ps,af,gd⟩ r∧H r):∃ r,HStep P σ acc e ⟨dd,.build t pp,ty,ps,af,gd⟩ r∧H r:=h
theorem Gh.bslice {t n:Nat} {pp:Array (Nat × Operand)} (h:∃ r,HStep P σ acc e ⟨dd,.buildSlice t n pp,ty,ps,af,gd⟩ r∧H r):∃ r,HStep P σ acc e ⟨dd,.buildSlice t n pp,ty,ps,af,gd⟩ r∧H r:=h
theorem Gh.conv {t u:TypeId} {x:Operand} (h:∃ r,HStep P σ acc e ⟨dd,.convert t u x,ty,ps,af,gd⟩ r∧H r):∃ r,HStep P σ acc e ⟨dd,.convert t u x,ty,ps,af,gd⟩ r∧H r:=h
theorem Ga.alloc {t : TypeId} (h:AWl P s0 m ops Q (⟨dd,.alloc t,ty,ps,af,gd⟩ :: rest) σ):AWl P s0 m ops Q (⟨dd,.alloc t,ty,ps,af,gd⟩ :: rest) σ:=h
theorem Ga.store {t : TypeId} {x y:Operand} (h:AWl P s0 m ops Q (⟨dd,.store t x y,ty,ps,af,gd⟩ :: rest) σ):AWl P s0 m ops Q (⟨dd,.store t x y,ty,ps,af,gd⟩ :: rest) σ:=h
theorem Ga.box {t : TypeId} {x:Operand} (h:AWl P s0 m ops Q (⟨dd,.box t x,ty,ps,af,gd⟩ :: rest) σ):AWl P s0 m ops Q (⟨dd,.box t x,ty,ps,af,gd⟩ :: rest) σ:=h
theorem Ga.b0 {t : TypeId} (h:AWl P s0 m ops Q (⟨dd,.buildSlice t 0 #[],ty,ps,af,gd⟩ :: rest) σ):AWl P s0 m ops Q (⟨dd,.buildSlice t 0 #[],ty,ps,af,gd⟩ :: rest) σ:=h
theorem Gc.cond {c : Operand} {x y:Code} (h:AWp P s0 m (.cond c x y) Q σ):AWp P s0 m (.cond c x y) Q σ:=h
end
structure CellAt (ds : List D) (off:Nat) (u:D):Prop where
 lt:off<ds.length
 eq:dAt ds off = u
structure PartAt (ds : List D) (off n:Nat) (es:List D):Prop where
 le:off+n≤ds.length
 eq:(ds.drop off).take n = es
structure SetAt (ds : List D) (off:Nat) (es ds':List D):Prop where
 le:off+es.length≤ds.length
 eq:spl ds off es = ds'
theorem CellAt.mon {a : Nat→Int} {k:Nat} (h:k<8):CellAt (monC a) k (ex (.int .i64 (a k))):=⟨h,monC_at h⟩
theorem CellAt.mon0 {a : Nat→Int} {k:Nat} (h:k<8):CellAt (monC a) (0+k*1) (ex (.int .i64 (a k))):=by rw [Nat.zero_add,Nat.mul_one];exact .mon h
theorem CellAt.monE {a : Nat→Int} {k:Nat} (h:k<8):CellAt ((monC a).drop (k*1)) 0 (ex (.int .i64 (a k))):=by
 rw [Nat.mul_one]
 refine ⟨by rw [List.length_drop,monC_length];omega,?_⟩
 rw [dAt_drop]
 exact monC_at h
theorem CellAt.tm {c : Rat} {a:Nat→Int} {k:Nat} (h:k<8):CellAt (ratC c ++ monC a) (0+4+k*1) (ex (.int .i64 (a k))):=by
 have e:dAt (ratC c ++ monC a) (4+k) = dAt (monC a) k:=by rw [show 4+k = k+4 by omega];rfl
 rw [Nat.zero_add,Nat.mul_one]
 exact ⟨by rw [List.length_append,ratC_length,monC_length];omega,e.trans (monC_at h)⟩
theorem monC_setM {a : Nat→Int} {k:Nat} {z:Int} (h:k<8):spl (monC a) k [ex (.int .i64 z)] = monC (setM a k z):=by
 match k,h with
 | 0,_=>rfl
 | 1,_=>rfl
 | 2,_=>rfl
 | 3,_=>rfl
 | 4,_=>rfl
 | 5,_=>rfl
 | 6,_=>rfl
 | 7,_=>rfl
theorem SetAt.mon {a : Nat→Int} {k:Nat} {z:Int} (h:k<8):SetAt (monC a) (0+k*1) [ex (.int .i64 z)] (monC (setM a k z)):=by
 rw [Nat.zero_add,Nat.mul_one]
 exact ⟨h,monC_setM h⟩
def rowO : List (List D)→Nat→Option (List D)
 | [],_=>none
 | r :: _,0=>some r
 | _ :: l,i+1=>rowO l i
theorem rowO_eq : ∀ {l:List (List D)} {i:Nat} {r:List D},rowO l i = some r→r = l.getD i []∧i<l.length
 | [],_,_,h=>by cases h
 | x :: l,0,r,h=>by cases h;exact ⟨rfl,by simp⟩
 | x :: l,i+1,r,h=>by
  obtain ⟨h1,h2⟩:=rowO_eq (l:=l) (i:=i) h
  exact ⟨by simpa using h1,by simp;omega⟩
section
variable {P : Program} {hp:List Ow} {arg:Operand→AV} {dd:Option Tmp} {ty:TypeId} {ps:String} {af:Array Edge} {gd:Option (Nat × Bool)}
theorem Qs.ixP {x y:Operand} {t:TypeId} {e n b n' b' len id off k:Nat} {d:TypeDesc} {z z':Value} {κ:IntKind} (hx:arg x = .ptr id off) (hy:arg y = .d (ex (.int κ ((k:Nat):Int)))) (ht:Tab P t (.array len e) n b z) (he:Tab P e d n' b' z') (hk:k<len):Quiet P hp ⟨dd,.indexAddr t x y,ty,ps,af,gd⟩ arg (.ptr id (off+k*n')) :=
 Quiet.indexP (o:=⟨dd,.indexAddr t x y,ty,ps,af,gd⟩) rfl hx hy ht he (by omega) (by omega)
theorem Qs.ixE {x y:Operand} {t:TypeId} {e n b n' b' len T k:Nat} {d:TypeDesc} {z z':Value} {ds:List D} {κ:IntKind} (hx:arg x = .d (epD T ds)) (hy:arg y = .d (ex (.int κ ((k:Nat):Int)))) (ht:Tab P t (.array len e) n b z) (he:Tab P e d n' b' z') (hk:k<len):Quiet P hp ⟨dd,.indexAddr t x y,ty,ps,af,gd⟩ arg (.d (epD T (ds.drop (k*n')))) :=
 Quiet.indexE (o:=⟨dd,.indexAddr t x y,ty,ps,af,gd⟩) rfl hx hy ht he (by omega) (by omega)
theorem Qs.indexL {x y:Operand} {t:TypeId} {e n b n' b' T sz:Nat} {d:TypeDesc} {z z':Value} {rows:List (List D)} {r:List D} {κ:IntKind} {i:Int} (hx:asD hp (arg x) = some (slD T sz rows)) (hy:arg y = .d (ex (.int κ i))) (ht:Tab P t (.slice e) n b z) (he:Tab P e d n' b' z') (hsz:n' = sz) (hr:rowO rows i.toNat = some r) (h0:0≤i):Quiet P hp ⟨dd,.indexAddr t x y,ty,ps,af,gd⟩ arg (.d (epD T r)):=by
 obtain ⟨h1,h2⟩:=rowO_eq hr
 rw [h1]
 exact Quiet.index (o:=⟨dd,.indexAddr t x y,ty,ps,af,gd⟩) rfl hx hy ht he hsz h0 (by omega)
theorem Qs.pred {T U:TypeId} {x y:Operand} {a:Nat} (hx:arg x = .d (ex (.int .i64 ((a:Nat):Int)))) (hy:arg y = .d (ex (.int .i64 1))) (h0:0<a) (h1:(a:Int)<9223372036854775807):Quiet P hp ⟨dd,.binOp .sub T x y U,ty,ps,af,gd⟩ arg (.d (ex (.int .i64 ((a - 1:Nat):Int)))):=by
 have:=Quiet.sub (P:=P) (hp:=hp) (o:=⟨dd,.binOp .sub T x y U,ty,ps,af,gd⟩) rfl hx hy (by omega) (by omega)
 rwa [show (a:Int) - 1 = ((a - 1:Nat):Int) by omega] at this
theorem Qs.ldX1 {x : Operand} {t:TypeId} {d:TypeDesc} {n b T id off:Nat} {z:Value} {ds:List D} {u:D} (hx:arg x = .ptr id off) (hh:hp[id]? = some (.var T (ds.map .d))) (ht:Tab P t d n b z) (hd:isAg d = false) (hc:CellAt ds off u):Quiet P hp ⟨dd,.load t x,ty,ps,af,gd⟩ arg (.d u):=by
 have:=Quiet.loadD1 (P:=P) (o:=⟨dd,.load t x,ty,ps,af,gd⟩) rfl hx hh ht hd hc.lt
 rwa [hc.eq] at this
theorem Qs.ldX {x : Operand} {t:TypeId} {d:TypeDesc} {n b T id off:Nat} {z:Value} {ds es:List D} (hx:arg x = .ptr id off) (hh:hp[id]? = some (.var T (ds.map .d))) (ht:Tab P t d n b z) (hd:isAg d = true) (hc:PartAt ds off n es):Quiet P hp ⟨dd,.load t x,ty,ps,af,gd⟩ arg (.d (agD es)):=by
 have:=Quiet.loadD (P:=P) (o:=⟨dd,.load t x,ty,ps,af,gd⟩) rfl hx hh ht hd (Nat.ble_eq_true_of_le hc.le)
 rwa [hc.eq] at this
theorem Qs.ldEX1 {x : Operand} {t:TypeId} {d:TypeDesc} {n b T:Nat} {z:Value} {ds:List D} {u:D} (hx:arg x = .d (epD T ds)) (ht:Tab P t d n b z) (hd:isAg d = false) (hc:CellAt ds 0 u):Quiet P hp ⟨dd,.load t x,ty,ps,af,gd⟩ arg (.d u):=by
 have:=Quiet.loadE1 (P:=P) (hp:=hp) (o:=⟨dd,.load t x,ty,ps,af,gd⟩) rfl hx ht hd hc.lt
 rwa [hc.eq] at this
theorem eqMon_run (a b : Nat → Int) {x y : Operand} (w : World) : (do eqGuard .eql 70 x y (.agg (c8 a)) (.agg (c8 b)); binOp .eql 70 (.agg (c8 a)) (.agg (c8 b)) : Sem Value).run Tryz.prog w = .ok (.bool (eqB a b)) w := by
 have heq:(Op.equalIn Op.maxDepth 70 (.agg (c8 a)) (.agg (c8 b))).run Tryz.prog w = .ok (eqB a b) w:=run_eq_mono a b w
 simp [eqGuard,binOp,Op.equal,heq]
theorem Quiet.binO {op : BinOp} {T U : TypeId} {x y : Operand} {dx dy : D} {a b v : Value} {o : Oper} (hop : o.op = .binOp op T x y U) (hx : arg x = .d dx) (hy : arg y = .d dy) (ha : ∀ s u, dx.rel s u → u = a) (hb : ∀ s u, dy.rel s u → u = b) (hr : ∀ w, (do eqGuard op T x y a b; binOp op T a b : Sem Value).run P w = .ok v w) : Quiet P hp o arg (.d (ex v)) := by
 refine ⟨fun base s ρ ev hok hbs hhp h=>?_⟩
 have h1:=h x (by rw [hop];simp [Op.operands])
 have h2:=h y (by rw [hop];simp [Op.operands])
 rw [hx] at h1;rw [hy] at h2
 have e1:=ha s _ h1
 have e2:=hb s _ h2
 have:=hr s.w
 refine opG_val (v:=v) ?_ ⟨GS.Le.refl s,rfl⟩
 simp only [execOp,hop,e1,e2,Sem.run_bind,this,Result.andThen_ok,Sem.run_pure]
theorem Qs.eqMon {x y:Operand} {U:TypeId} {a b:Nat→Int} (hx:arg x = .d (agD (monC a))) (hy:arg y = .d (agD (monC b))):Quiet Tryz.prog hp ⟨dd,.binOp .eql 70 x y U,ty,ps,af,gd⟩ arg (.d (ex (.bool (eqB a b)))) :=
 Quiet.binO rfl hx hy (fun _ _ h=>monC_open h) (fun _ _ h=>monC_open h) fun w=>eqMon_run a b w
theorem Qs.eqMonT {x y:Operand} {U:TypeId} {a b:Nat→Int} (hx:arg x = .d (agD (monC a))) (hy:arg y = .d (agD (monC b))) (h:eqB a b = true):Quiet Tryz.prog hp ⟨dd,.binOp .eql 70 x y U,ty,ps,af,gd⟩ arg (.d (ex (.bool true))):=by
 rw [← h];exact Qs.eqMon hx hy
theorem Qs.eqMonF {x y:Operand} {U:TypeId} {a b:Nat→Int} (hx:arg x = .d (agD (monC a))) (hy:arg y = .d (agD (monC b))) (h:eqB a b = false):Quiet Tryz.prog hp ⟨dd,.binOp .eql 70 x y U,ty,ps,af,gd⟩ arg (.d (ex (.bool false))):=by
 rw [← h];exact Qs.eqMon hx hy
theorem Qs.eqBool {x y:Operand} {T U:TypeId} {a b:Bool} (hx:arg x = .d (ex (.bool a))) (hy:arg y = .d (ex (.bool b))) (hT:P.underlying T = some .bool):Quiet P hp ⟨dd,.binOp .eql T x y U,ty,ps,af,gd⟩ arg (.d (ex (.bool (a == b)))) :=
 Quiet.bin (o:=⟨dd,.binOp .eql T x y U,ty,ps,af,gd⟩) rfl hx hy fun w=>by
  have heq:(Op.equalIn Op.maxDepth T (.bool a) (.bool b)).run P w = .ok (a == b) w:=run_equalIn_bool w 9999 T a b hT
  simp [eqGuard,binOp,Op.equal,heq]
end
section
variable {P : Program} {s0:An} {n:Nat} {ops:Array Oper} {Q:Exit→AS→Prop} {rest:List Oper} {fr:List (Nat × AV)} {hp:List Ow} {ty:TypeId} {ps:String} {af:Array Edge}
theorem AWs.stX {T T0:TypeId} {d:TypeDesc} {b id m off:Nat} {z:Value} {x y:Operand} {cs ds cs':List D} {hp':List Ow} (hx:AS.arg ⟨fr,hp⟩ x = .ptr id off) (hy:AS.arg ⟨fr,hp⟩ y = .d (agD ds)) (hh:hp[id]? = some (.var T0 (cs.map .d))) (ht:Tab P T d m b z) (hm:ds.length = m) (hc:SetAt cs off ds cs') (hs:setO hp id (.var T0 (cs'.map .d)) = some hp')
  (h:AWl P s0 n ops Q rest ⟨fr,hp'⟩):AWl P s0 n ops Q (⟨none,.store T x y,ty,ps,af,none⟩ :: rest) ⟨fr,hp⟩:=by
 refine AWl.storeD (o:=⟨none,.store T x y,ty,ps,af,none⟩) rfl rfl rfl hx hy hh ht hm (by rw [← hm];exact Nat.ble_eq_true_of_le hc.le) ?_
 rw [setO_eq hs,← hc.eq] at h
 exact h
theorem AWs.stX1 {T T0:TypeId} {d:TypeDesc} {b id off:Nat} {z:Value} {x y:Operand} {cs cs':List D} {u:D} {hp':List Ow} (hx:AS.arg ⟨fr,hp⟩ x = .ptr id off) (hy:AS.arg ⟨fr,hp⟩ y = .d u) (hh:hp[id]? = some (.var T0 (cs.map .d))) (ht:Tab P T d 1 b z) (h1:One hp (.d u)) (hc:SetAt cs off [u] cs') (hs:setO hp id (.var T0 (cs'.map .d)) = some hp')
  (h:AWl P s0 n ops Q rest ⟨fr,hp'⟩):AWl P s0 n ops Q (⟨none,.store T x y,ty,ps,af,none⟩ :: rest) ⟨fr,hp⟩:=by
 have hlt:off<cs.length:=hc.le
 refine AWl.storeD1 (o:=⟨none,.store T x y,ty,ps,af,none⟩) rfl rfl rfl hx hy hh ht h1 hlt ?_
 have e1:=hc.eq
 have:spl cs off [u] = cs.set off u:=by
  unfold spl
  rw [List.set_eq_take_append_cons_drop,if_pos hlt]
  rfl
 rw [this] at e1
 rw [setO_eq hs,← e1] at h
 exact h
end
theorem setO_same : ∀ {hp hp':List Ow} {i:Nat} {x:Ow},hp[i]? = some x→setO hp i x = some hp'→hp' = hp
 | [],_,_,_,h,_=>by cases h
 | o :: l,hp',0,x,h,h'=>by cases h;cases h';rfl
 | o :: l,hp',i+1,x,h,h'=>by
  unfold setO at h'
  split at h'
  ·rename_i r hr
   cases h'
   rw [setO_same (by simpa using h) hr]
  ·cases h'
theorem AWl.fold {P : Program} {s0:An} {n:Nat} {ops:Array Oper} {Q:Exit→AS→Prop} {l:List Oper} {fr:List (Nat × AV)} {hp hp':List Ow} {T:TypeId} {cs:List D} (id:Nat) (cs':List D) (hh:hp[id]? = some (.var T (cs.map .d))) (he:cs = cs') (hs:setO hp id (.var T (cs'.map .d)) = some hp') (h:AWl P s0 n ops Q l ⟨fr,hp'⟩):AWl P s0 n ops Q l ⟨fr,hp⟩:=by
 subst he
 rw [setO_same hh hs] at h
 exact h
theorem D.le.trans {x y z:D} (h:D.le x y) (h':D.le y z):D.le x z:=fun s v hv=>h' s v (h s v hv)
theorem D.le.tup2 {x y x' y':D} (h:D.le x x') (h':D.le y y'):D.le (tupD [x,y]) (tupD [x',y']):=fun s v hv=>by
 obtain ⟨vs,e,hl,hk⟩:=hv
 refine ⟨vs,e,hl,fun k hk'=>?_⟩
 obtain ⟨u,h1,h2⟩:=hk k hk'
 match k,hk' with
 | 0,_=>exact ⟨u,h1,h s u h2⟩
 | 1,_=>exact ⟨u,h1,h' s u h2⟩
 | k+2,hk'=>exact absurd hk' (by simp)
theorem D.le_pol {P Q:List Tm} (h:P = Q):D.le (polD P) (polD Q):=D.le.of_eq (by rw [h])
theorem D.le_nilP : D.le (ex (.slice none 0 0)) (polD []):=D.le_nil
section
variable {P : Program} {hp:List Ow} {arg:Operand→AV} {dd:Option Tmp} {ty:TypeId} {ps:String} {af:Array Edge} {gd:Option (Nat × Bool)}
theorem Qs.lenW {x : Operand} {t:TypeId} {e n b:Nat} {z:Value} {l:List Nat} (hx:arg x = .d (wD l)) (ht:Tab P t (.slice e) n b z):Quiet P hp ⟨dd,.call { callee:=.builtin .len,args:=#[x],argTypes:=#[t] },ty,ps,af,gd⟩ arg (.d (ex (.int .i64 (l.length:Nat)))):=by
 refine ⟨fun base s ρ ev hok hbs hhp h=>?_⟩
 have h1:=h x (by simp [Op.operands,Call.operands])
 rw [hx] at h1
 obtain ⟨A,c,e1,h2⟩:=h1.1
 rw [List.length_map] at e1
 refine opG_val (v:=.int .i64 l.length) ?_ ⟨GS.Le.refl s,rfl⟩
 simp [execOp,resolve,invoke,builtin,e1,Builtin.len_,run_underlying ht.und,goInt]
theorem Qs.indexW {x y:Operand} {t:TypeId} {e n b b' k:Nat} {d:TypeDesc} {z z':Value} {l:List Nat} {κ:IntKind} (hx:arg x = .d (wD l)) (hy:arg y = .d (ex (.int κ ((k:Nat):Int)))) (ht:Tab P t (.slice e) n b z) (he:Tab P e d 1 b' z') (hk:k<l.length):Quiet P hp ⟨dd,.indexAddr t x y,ty,ps,af,gd⟩ arg (.d (epD 139 [ex (.int .u32 (l.getD k 0:Nat))])):=by
 refine ⟨fun base s ρ ev hok hbs hhp h=>?_⟩
 have h1:=h x (by simp [Op.operands])
 have h2:=h y (by simp [Op.operands])
 rw [hx] at h1;rw [hy] at h2
 have e2:ev y = .int κ ((k:Nat):Int):=h2
 obtain ⟨A,c,e1,h3,h4,h5⟩:=h1.1
 rw [List.length_map] at e1 h5
 obtain ⟨g,p,rfl,h6⟩:=h5 (by omega)
 have h7:=(h6 k hk).2
 have e3:(l.map fun x=>[ex (.int .u32 (x:Nat))]).getD k [] = [ex (.int .u32 (l.getD k 0:Nat))]:=by
  simp [List.getD_eq_getElem?_getD,hk]
 rw [e3] at h7
 refine opG_val (v:=.pointer (some ⟨g,p+k*1,none⟩)) ?_ ⟨GS.Le.refl s,g,_,rfl,h7⟩
 have hb:k<l.length:=hk
 simp [execOp,e1,e2,Instr.indexAt,asIntOf,run_underlying ht.und,hb,he.run_size,Addr.add_lit]
end
theorem isOne_abs (z : Int):Abs Tryz.prog 120 [agD (intC z)] (ex (.bool (decide (z = 1)))):=by
 refine Abs.of_old (callFunc_run Tryz.func120 (by kernel_rfl) (by kernel_rfl)) fun s vs hok hl hv=>?_
 rw [vs1 hl]
 obtain ⟨x0,X0,n0,c0,e0,h0⟩:=intC_open (hv 0 (by simp))
 rw [e0]
 exact (isOne_any x0 X0 n0 c0 z _ h0).mono fun e w' ⟨he,hE⟩=>⟨_,he,hE,fun s' hw hok' _ _=>rfl⟩
theorem sgn_abs (z : Int):Abs Tryz.prog 91 [agD (intC z)] (ex (.int .i64 z.sign)):=by
 refine Abs.of_old (callFunc_run Tryz.func91 (by kernel_rfl) (by kernel_rfl)) fun s vs hok hl hv=>?_
 rw [vs1 hl]
 obtain ⟨x0,X0,n0,c0,e0,h0⟩:=intC_open (hv 0 (by simp))
 rw [e0]
 exact (sign_any x0 X0 n0 c0 z _ h0).mono fun e w' ⟨he,hE⟩=>⟨_,he,hE,fun s' hw hok' _ _=>rfl⟩
theorem gcd_abs (x y:Int) (hn:(digs x.natAbs).length≤4398046511104) (hn':(digs y.natAbs).length≤4398046511104):Abs Tryz.prog 121 [agD (intC x),agD (intC y)] (agD (intC (Nat.gcd x.natAbs y.natAbs:Nat))):=by
 refine Abs.of_old (callFunc_run Tryz.func121 (by kernel_rfl) (by kernel_rfl)) fun s vs hok hl hv=>?_
 rw [vs2 hl]
 obtain ⟨x0,X0,n0,c0,e0,h0⟩:=intC_open (hv 0 (by simp))
 obtain ⟨x1,X1,n1,c1,e1,h1⟩:=intC_open (hv 1 (by simp))
 rw [e0,e1]
 exact (gcd_any x0 x1 X0 X1 n0 c0 n1 c1 x y _ h0 h1 hn hn').mono fun e w' ⟨y,Y,m,k,he,hI,hE⟩=>⟨_,he,hE,fun s' hw hok' _ _=>by subst hw;exact intC_mk hok' hI⟩
theorem mul_abs (x y:Int) (hn:(digs x.natAbs).length≤4398046511104) (hn':(digs y.natAbs).length≤4398046511104):Abs Tryz.prog 134 [agD (intC x),agD (intC y)] (agD (intC (x*y))):=by
 refine Abs.of_old (callFunc_run Tryz.func134 (by kernel_rfl) (by kernel_rfl)) fun s vs hok hl hv=>?_
 rw [vs2 hl]
 obtain ⟨x0,X0,n0,c0,e0,h0⟩:=intC_open (hv 0 (by simp))
 obtain ⟨x1,X1,n1,c1,e1,h1⟩:=intC_open (hv 1 (by simp))
 rw [e0,e1]
 exact (mul_any x0 x1 X0 X1 n0 c0 n1 c1 x y _ h0 h1 hn hn').mono fun e w' ⟨y,Y,m,k,he,hI,hE⟩=>⟨_,he,hE,fun s' hw hok' _ _=>by subst hw;exact intC_mk hok' hI⟩
theorem of_abs (z : Int) (h0:-9223372036854775808≤z) (h1:z≤9223372036854775807):Abs Tryz.prog 133 [ex (.int .i64 z)] (agD (intC z)):=by
 refine Abs.of_old (callFunc_run Tryz.func133 (by kernel_rfl) (by kernel_rfl)) fun s vs hok hl hv=>?_
 rw [vs1 hl]
 have e0:vs.getD 0 undef = .int .i64 z:=hv 0 (by simp)
 rw [e0]
 exact (of_any z _ h0 h1).mono fun e w' ⟨y,Y,m,k,he,hI,hE⟩=>⟨_,he,hE,fun s' hw hok' _ _=>by subst hw;exact intC_mk hok' hI⟩
theorem Rgcd_abs (x y:Int) (hn:(digs x.natAbs).length≤4398046511103) (hn':(digs y.natAbs).length≤4398046511103):Abs Tryz.prog 67 [agD (intC x),agD (intC y)] (agD (intC (Nat.gcd x.natAbs y.natAbs:Nat))):=by
 refine Abs.of_old (callFunc_run Tryz.func67 (by kernel_rfl) (by kernel_rfl)) fun s vs hok hl hv=>?_
 rw [vs2 hl]
 obtain ⟨x0,X0,n0,c0,e0,h0⟩:=intC_open (hv 0 (by simp))
 obtain ⟨x1,X1,n1,c1,e1,h1⟩:=intC_open (hv 1 (by simp))
 rw [e0,e1]
 exact (Rgcd_any x0 x1 X0 X1 n0 c0 n1 c1 x y _ h0 h1 hn hn').mono fun e w' ⟨y,Y,m,k,he,hI,hE⟩=>⟨_,he,hE,fun s' hw hok' _ _=>by subst hw;exact intC_mk hok' hI⟩
theorem Rof_abs (z : Int) (h0:-9223372036854775808≤z) (h1:z≤9223372036854775807):Abs Tryz.prog 68 [ex (.int .i64 z)] (agD (intC z)):=by
 refine Abs.of_old (callFunc_run Tryz.func68 (by kernel_rfl) (by kernel_rfl)) fun s vs hok hl hv=>?_
 rw [vs1 hl]
 have e0:vs.getD 0 undef = .int .i64 z:=hv 0 (by simp)
 rw [e0]
 exact (Rof_any z _ h0 h1).mono fun e w' ⟨y,Y,m,k,he,hI,hE⟩=>⟨_,he,hE,fun s' hw hok' _ _=>by subst hw;exact intC_mk hok' hI⟩
theorem compare_abs (x y:Nat):Abs Tryz.prog 143 [wD (digs x),wD (digs y)] (ex (.int .i64 (cmpN x y))):=by
 refine Abs.of_old (callFunc_run Tryz.func143 (by kernel_rfl) (by kernel_rfl)) fun s vs hok hl hv=>?_
 rw [vs2 hl]
 exact (compare_any _ _ x y _ (wD_words (hv 0 (by simp))) (wD_words (hv 1 (by simp)))).mono fun e w' ⟨he,hE⟩=>⟨_,he,hE,fun s' hw hok' _ _=>rfl⟩
theorem Rcompared_abs (x y:Nat):Abs Tryz.prog 102 [wD (digs x),wD (digs y)] (ex (.int .i64 (cmpN x y))):=by
 refine Abs.of_old (callFunc_run Tryz.func102 (by kernel_rfl) (by kernel_rfl)) fun s vs hok hl hv=>?_
 rw [vs2 hl]
 exact (Rcompared_any _ _ x y _ (wD_words (hv 0 (by simp))) (wD_words (hv 1 (by simp)))).mono fun e w' ⟨he,hE⟩=>⟨_,he,hE,fun s' hw hok' _ _=>rfl⟩
section
variable {P : Program} {hp:List Ow} {arg:Operand→AV} {dd:Option Tmp} {ty:TypeId} {ps:String} {af:Array Edge} {gd:Option (Nat × Bool)}
theorem Qs.neg {T : TypeId} {x:Operand} {a:Int} (hx:arg x = .d (ex (.int .i64 a))) (h1:-9223372036854775807≤a) (h2:a≤9223372036854775807):Quiet P hp ⟨dd,.unOp .neg T x,ty,ps,af,gd⟩ arg (.d (ex (.int .i64 (-a)))):=by
 refine ⟨fun base s ρ ev hok hbs hhp h=>?_⟩
 have h3:=h x (by simp [Op.operands])
 rw [hx] at h3
 have e1:ev x = .int .i64 a:=h3
 have e2:IntKind.i64.wrap (-a) = -a:=IntWalk.i64_in _ (by omega)
 exact opG_val (v:=.int .i64 (-a)) (by simp [execOp,e1,Op.unary,Op.intArith,e2]) ⟨GS.Le.refl s,rfl⟩
theorem Qs.conv64 {S T:TypeId} {x:Operand} {k:IntKind} {a:Int} {d:TypeDesc} {n b n' b':Nat} {z z':Value} (hx:arg x = .d (ex (.int k a))) (hS:Tab P S d n b z) (hT:Tab P T (.int .i64) n' b' z') (h1:-9223372036854775808≤a) (h2:a≤9223372036854775807):Quiet P hp ⟨dd,.convert S T x,ty,ps,af,gd⟩ arg (.d (ex (.int .i64 a))):=by
 have:=Qs.conv (hp:=hp) (dd:=dd) (ty:=ty) (ps:=ps) (af:=af) (gd:=gd) hx hS hT
 rwa [IntWalk.i64_in _ (by omega)] at this
theorem Qs.succL {T U:TypeId} {x y:Operand} {a:Nat} (hx:arg x = .d (ex (.int .i64 1))) (hy:arg y = .d (ex (.int .i64 (a:Nat)))) (h1:(a:Int)<9223372036854775807):Quiet P hp ⟨dd,.binOp .add T x y U,ty,ps,af,gd⟩ arg (.d (ex (.int .i64 ((a+1:Nat):Int)))):=by
 have:=Qs.add (P:=P) (hp:=hp) (dd:=dd) (ty:=ty) (ps:=ps) (af:=af) (gd:=gd) (T:=T) (U:=U) hx hy (by omega) (by omega)
 rwa [show (1:Int)+a = ((a+1:Nat):Int) by omega] at this
end
section
variable {P : Program} {hp:List Ow} {arg:Operand→AV} {dd:Option Tmp} {ty:TypeId} {ps:String} {af:Array Edge} {gd:Option (Nat × Bool)}
theorem Qs.ixL {x y:Operand} {t:TypeId} {e n b n' b' len T:Nat} {d:TypeDesc} {z z':Value} {ds r:List D} {κ:IntKind} {i:Int} (hx:arg x = .d (epD T ds)) (hy:arg y = .d (ex (.int κ i))) (ht:Tab P t (.array len e) n b z) (he:Tab P e d n' b' z') (h0:0≤i) (hl:i<len) (hr:dropO (i.toNat*n') ds = some r):Quiet P hp ⟨dd,.indexAddr t x y,ty,ps,af,gd⟩ arg (.d (epD T r)):=by
 rw [(dropO_eq hr).1]
 exact Quiet.indexE (o:=⟨dd,.indexAddr t x y,ty,ps,af,gd⟩) rfl hx hy ht he h0 hl
theorem Qs.ixPL {x y:Operand} {t:TypeId} {e n b n' b' len id off:Nat} {d:TypeDesc} {z z':Value} {κ:IntKind} {i:Int} (hx:arg x = .ptr id off) (hy:arg y = .d (ex (.int κ i))) (ht:Tab P t (.array len e) n b z) (he:Tab P e d n' b' z') (h0:0≤i) (hl:i<len):Quiet P hp ⟨dd,.indexAddr t x y,ty,ps,af,gd⟩ arg (.ptr id (off+i.toNat*n')) :=
 Quiet.indexP (o:=⟨dd,.indexAddr t x y,ty,ps,af,gd⟩) rfl hx hy ht he h0 hl
end
def r5C (r : Nat→Int):List D:=[ex (.int .i8 (r 0)),ex (.int .i8 (r 1)),ex (.int .i8 (r 2)),ex (.int .i8 (r 3)),ex (.int .i8 (r 4))]
theorem r5C_at {r : Nat→Int} {k:Nat} (h:k<5):dAt (r5C r) k = ex (.int .i8 (r k)):=by
 match k,h with
 | 0,_=>rfl
 | 1,_=>rfl
 | 2,_=>rfl
 | 3,_=>rfl
 | 4,_=>rfl
theorem CellAt.r5 {r : Nat→Int} {k:Nat} (h:k<5):CellAt ((r5C r).drop (k*1)) 0 (ex (.int .i8 (r k))):=by
 rw [Nat.mul_one]
 refine ⟨by rw [List.length_drop];show 0<5 - k;omega,?_⟩
 rw [dAt_drop]
 exact r5C_at h
def r5D (T : Nat) (X:List (Nat→Int)):D:=slD T 5 (X.map r5C)
def i5At (X : List (Nat→Int)) (k:Nat):Nat→Int:=X.getD k default
theorem i5At_mem {X : List (Nat→Int)} {k:Nat} (h:k<X.length):i5At X k∈X:=by
 unfold i5At
 rw [List.getD_eq_getElem?_getD,List.getElem?_eq_getElem h]
 exact List.getElem_mem h
inductive AddE (e : Nat):List Oper→List Oper→Prop
 | nil:AddE e [] []
 | keep {o:Oper} {l l':List Oper} (h:AddE e l l'):AddE e (o :: l) (o :: l')
 | add {dd:Option Tmp} {op:Op} {ty:TypeId} {ps:String} {af:Array Edge} {gd:Option (Nat × Bool)} {l l':List Oper} (h:AddE e l l'):AddE e (⟨dd,op,ty,ps,af,gd⟩ :: l) (⟨dd,op,ty,ps,af.push ⟨e,.data⟩,gd⟩ :: l')
theorem AddE.length {e : Nat} {l l':List Oper} (h:AddE e l l'):l.length = l'.length:=by
 induction h <;> simp_all
theorem AddE.at {e : Nat} {l l':List Oper} (h:AddE e l l'):∀ (i:Nat) (o:Oper),l[i]? = some o→∃ o',l'[i]? = some o'∧(o' = o∨o' = { o with after:=o.after.push ⟨e,.data⟩ }):=by
 induction h with
 | nil=>intro i o ho;simp at ho
 | keep h ih =>
  intro i o ho
  cases i with
  | zero=>simp at ho;subst ho;exact ⟨_,by simp,.inl rfl⟩
  | succ i=>simpa using ih i o (by simpa using ho)
 | add h ih =>
  intro i o ho
  cases i with
  | zero=>simp at ho;subst ho;exact ⟨_,by simp,.inr rfl⟩
  | succ i=>simpa using ih i o (by simpa using ho)
def floatB (e : Nat) (L L':List Oper):Bool :=
 match L[e]?,L'[e]? with
 | some oe,some oe'=>(match oe.op with | .extract _ _=>true | .move _=>true | _=>false) && oe.guard.isNone && (edges oe == edges oe') &&
  ((List.range L.length).all fun i=>match L[i]?,L'[i]? with
   | some o,some o'=>(edges o == edges o') || (edges oe).all fun j=>(edges o).contains j
   | _,_=>false) &&
  ((List.range L.length).all fun j=>j == e || match L[j]? with
   | some o=>(edges o).contains e || (edges oe).contains j || oe.apart L.toArray o
   | none=>false) &&
  L.all fun o=>notSelect o.op
 | _,_=>false
theorem extract_run {P : Program} {o:Oper} {a:Act} (hop:(∃ x n,o.op = .extract x n)∨∃ x,o.op = .move x):(∃ v,∀ w,(execOp a.eval o).run P w = .ok (.value v) w)∨∀ (K:Act→World→Prop) (Q:Exit→Act→World→Prop) w,¬ o.wp P a w K Q:=by
 rcases hop with ⟨x,n,hop⟩ | ⟨x,hop⟩
 case inr=>exact .inl ⟨a.eval x,fun w=>by simp [execOp,hop]⟩
 cases hx:a.eval x with
 | tuple cs =>
  cases hc:cs[n]? with
  | some v=>exact .inl ⟨v,fun w=>by simp [execOp,hop,Instr.extract,hx,hc]⟩
  | none =>
   refine .inr fun K Q w hw=>?_
   simp [Oper.wp,execOp,hop,Instr.extract,hx,hc,stuck,Oper.upon] at hw
 | _ =>
  refine .inr fun K Q w hw=>?_
  simp [Oper.wp,execOp,hop,Instr.extract,hx,stuck,Oper.upon] at hw
theorem edges_of {L : List Oper} {j:Nat} {o:Oper} {listed:Array Bool} (hsz:listed.size = L.length) (ho:L[j]? = some o):j∈Region.ready .any L.toArray listed↔listed.getD j false = false∧∀ k∈edges o,listed.getD k false = true:=by
 have hlt:j<listed.size:=by rw [hsz];exact (List.getElem?_eq_some_iff.1 ho).1
 rw [mem_ready]
 have e:listed.getD j true = listed.getD j false:=by simp [hlt]
 rw [e]
 refine and_congr_right fun _=>⟨fun ⟨o',h1,h2⟩ k hk=>?_,fun h=>⟨o,by simpa using ho,fun e he hb=>h _ (mem_edges he hb)⟩⟩
 obtain rfl:o' = o:=by rw [List.getElem?_toArray,ho] at h1;exact (Option.some.inj h1).symm
 obtain ⟨e,he,hb,rfl⟩:=edges_mem hk
 exact h2 e he hb
theorem edges_add {o : Oper} {e:Nat} {k:Nat} (h:k∈edges o):k∈edges { o with after:=o.after.push ⟨e,.data⟩ }:=by
 obtain ⟨x,hx,hb,rfl⟩:=edges_mem h
 exact mem_edges (by simp [hx]) hb
theorem edges_sub {o : Oper} {e:Nat} {k:Nat} (h:k∈edges { o with after:=o.after.push ⟨e,.data⟩ }):k∈edges o∨k = e:=by
 obtain ⟨x,hx,hb,rfl⟩:=edges_mem h
 rcases Array.mem_push.1 hx with hx | rfl
 ·exact .inl (mem_edges hx hb)
 ·exact .inr rfl
theorem wpAny_float {P : Program} {Q:Exit→Act→World→Prop} {e:Nat} {L L':List Oper} (hL:AddE e L L') (hb:floatB e L L' = true) (hQ:∀ c a w,¬ Q (.panic c) a w) (hQ':¬ LetsOut Q):∀ (f:Nat) (listed:Array Bool) (a:Act) (w:World),listed.size = L.length →
  (∀ j o,L[j]? = some o→listed.getD j false = true→∀ k∈edges o,listed.getD k false = true) →
  wpAny P .any L'.toArray Q f listed a w→wpAny P .any L.toArray Q f listed a w:=by
 obtain ⟨oe,oe',he,he',hb1,hb2,hb3,hb4,hb5,hb6⟩:∃ oe oe',L[e]? = some oe∧L'[e]? = some oe'∧((∃ x n,oe.op = .extract x n)∨∃ x,oe.op = .move x)∧oe.guard = none∧edges oe = edges oe'∧(∀ i o o',L[i]? = some o→L'[i]? = some o'→edges o = edges o'∨∀ j∈edges oe,j∈edges o)∧(∀ j o,L[j]? = some o→j = e∨e∈edges o∨j∈edges oe∨oe.apart L.toArray o = true)∧∀ o∈L,notSelect o.op = true:=by
  unfold floatB at hb
  split at hb
  ·rename_i oe oe' he he'
   simp only [Bool.and_eq_true] at hb
   obtain ⟨⟨⟨⟨⟨h1,h2⟩,h3⟩,h4⟩,h5⟩,h6⟩:=hb
   refine ⟨oe,oe',he,he',?_,by simpa using h2,by simpa using h3,fun i o o' ho ho'=>?_,fun j o ho=>?_,fun o ho=>List.all_eq_true.1 h6 o ho⟩
   ·split at h1
    ·exact .inl ⟨_,_,by assumption⟩
    ·exact .inr ⟨_,by assumption⟩
    ·cases h1
   ·have:=List.all_eq_true.1 h4 i (List.mem_range.2 (List.getElem?_eq_some_iff.1 ho).1)
    rw [ho,ho'] at this
    simpa using this
   ·have:=List.all_eq_true.1 h5 j (List.mem_range.2 (List.getElem?_eq_some_iff.1 ho).1)
    rw [ho] at this
    simp only [Bool.or_eq_true,beq_iff_eq] at this
    simp only [List.contains_iff_mem] at this
    rcases this with h | (h | h) | h
    ·exact .inl h
    ·exact .inr (.inl h)
    ·exact .inr (.inr (.inl h))
    ·exact .inr (.inr (.inr h))
  ·cases hb
 have hop:=hb1
 have hlen:=hL.length
 have hel:e<L.length:=(List.getElem?_eq_some_iff.1 he).1
 have hsel:∀ (j:Nat) (o:Oper) cs b,L.toArray[j]? = some o→o.op ≠ .select cs b:=fun j o cs b ho h=>by
  have:=hb6 o (List.mem_of_getElem? (i:=j) (by simpa using ho))
  rw [h] at this
  cases this
 intro f
 induction f with
 | zero =>
  intro listed a w hsz hcl h
  refine ⟨?_,h.2⟩
  have h1:=h.1
  refine List.eq_nil_iff_forall_not_mem.2 fun i hi=>?_
  obtain ⟨_,o,ho,_⟩:=mem_ready.1 hi
  have ho:L[i]? = some o:=by simpa using ho
  obtain ⟨o',ho',hoo⟩:=hL.at i o ho
  have hi2:=(edges_of hsz ho).1 hi
  by_cases hr:i∈Region.ready .any L'.toArray listed
  ·rw [h1] at hr;cases hr
  ·have hr':e∈Region.ready .any L'.toArray listed:=by
    rw [edges_of (by rw [hsz,hlen]) ho'] at hr
    rw [edges_of (by rw [hsz,hlen]) he',← hb3]
    rcases hb4 i o o' ho ho' with h | h
    ·exact absurd ⟨hi2.1,by rw [← h];exact hi2.2⟩ hr
    ·refine ⟨?_,fun k hk=>hi2.2 k (h k hk)⟩
     cases hg:listed.getD e false with
     | false=>rfl
     | true =>
      refine absurd ⟨hi2.1,fun k hk=>?_⟩ hr
      rcases hoo with rfl | rfl
      ·exact hi2.2 k hk
      ·rcases edges_sub hk with hk | rfl
       ·exact hi2.2 k hk
       ·exact hg
   rw [h1] at hr';cases hr'
 | succ f ih =>
  intro listed a w hsz hcl h
  by_cases hre:e∈Region.ready .any L.toArray listed
  ·have hre2:=(edges_of hsz he).1 hre
   have hre':e∈Region.ready .any L'.toArray listed:=(edges_of (by rw [hsz,hlen]) he').2 ⟨hre2.1,by rw [← hb3];exact hre2.2⟩
   have h1:=h.2 e hre'
   obtain ⟨oe2,he2,hoo⟩:=hL.at e oe he
   obtain rfl:oe2 = oe':=Option.some.inj (he2.symm.trans he')
   have hex:execOp a.eval oe2 = execOp a.eval oe:=by rcases hoo with rfl | rfl <;> rfl
   have hgd:oe2.guard = none:=by rcases hoo with rfl | rfl <;> exact hb2
   have hds:oe2.dst = oe.dst:=by rcases hoo with rfl | rfl <;> rfl
   unfold wpOp at h1
   rw [show L'.toArray[e]? = some oe2 by simpa using he'] at h1
   simp only [Region.wanted,hgd,if_true] at h1
   have h1:oe2.wp P a w (wpAny P .any L'.toArray Q f (listed.setIfInBounds e true)) Q:=h1.elim id fun h=>absurd h.2 hQ'
   rcases extract_run (P:=P) (a:=a) hop with ⟨v,hv⟩ | hno
   ·have h2:wpAny P .any L'.toArray Q f (listed.setIfInBounds e true) (a.put oe.dst v) w:=by
     unfold Oper.wp at h1
     rw [hex,hv w,Oper.upon_value,hds] at h1
     exact h1
    refine wpAny_first (v:=v) (show L.toArray[e]? = some oe by simpa using he) hsel (fun c a w h=>absurd h (hQ c _ w)) f listed a w (fun j oj hj hne hun hno=>?_) hre (.inl ⟨by simp [Region.wanted,hb2],hv⟩) (ih _ _ _ (by simpa using hsz) (fun j o ho hl k hk=>?_) h2)
    ·have hj : L[j]? = some oj := by simpa using hj
     rcases hb5 j oj hj with h | h | h | h
     ·exact absurd h hne
     ·obtain ⟨x,hx,hbx,hxe⟩:=edges_mem h
      exact absurd hxe (hno x hx hbx)
     ·have:=hre2.2 j h
      have hlt:j<listed.size:=by rw [hsz];exact (List.getElem?_eq_some_iff.1 hj).1
      simp [hlt] at this hun
      rw [this] at hun;cases hun
     ·exact h
    ·by_cases hje:j = e
     ·subst hje
      obtain rfl:o = oe:=Option.some.inj (ho.symm.trans he)
      exact getD_set_true (hre2.2 k hk)
     ·rw [getD_set_ne false (fun h=>hje h.symm)] at hl
      exact getD_set_true (hcl j o ho hl k hk)
   ·exfalso
    refine hno (wpAny P .any L'.toArray Q f (listed.setIfInBounds e true)) Q w ?_
    unfold Oper.wp at h1 ⊢
    rw [hex] at h1
    have:∀ (r:Result Next),oe2.upon P a (wpAny P .any L'.toArray Q f (listed.setIfInBounds e true)) Q r = oe.upon P a (wpAny P .any L'.toArray Q f (listed.setIfInBounds e true)) Q r:=fun r=>by
     rcases hoo with rfl | rfl <;> rfl
    rwa [this] at h1
  ·have same:∀ i,i∈Region.ready .any L.toArray listed↔i∈Region.ready .any L'.toArray listed:=fun i=>by
    by_cases hil:i<L.length
    ·have ho:L[i]? = some L[i]:=List.getElem?_eq_getElem hil
     obtain ⟨o',ho',hoo⟩:=hL.at i _ ho
     rw [edges_of hsz ho,edges_of (by rw [hsz,hlen]) ho']
     refine and_congr_right fun hun=>⟨fun h k hk=>?_,fun h k hk=>?_⟩
     ·rcases hb4 i _ o' ho ho' with h' | h'
      ·exact h k (by rw [h'];exact hk)
      ·rcases hoo with rfl | rfl
       ·exact h k hk
       ·rcases edges_sub hk with hk | rfl
        ·exact h k hk
        ·cases hg:listed.getD k false with
         | true=>rfl
         | false=>exact absurd ((edges_of hsz he).2 ⟨hg,fun j hj=>h j (h' j hj)⟩) hre
     ·rcases hoo with rfl | rfl
      ·exact h k hk
      ·exact h k (edges_add hk)
    ·constructor
     ·intro h
      obtain ⟨_,o,ho,_⟩:=mem_ready.1 h
      have:=(Array.getElem?_eq_some_iff.1 ho).1
      simp at this
      exact absurd this hil
     ·intro h
      obtain ⟨_,o,ho,_⟩:=mem_ready.1 h
      have:=(Array.getElem?_eq_some_iff.1 ho).1
      simp at this
      exact absurd (by omega) hil
   refine ⟨fun hn=>h.1 (List.eq_nil_iff_forall_not_mem.2 fun i hi=>?_),fun i hi=>?_⟩
   ·have:=(same i).2 hi
    rw [hn] at this;cases this
   ·have h1:=h.2 i ((same i).1 hi)
    obtain ⟨_,o,ho,_⟩:=mem_ready.1 hi
    have ho:L[i]? = some o:=by simpa using ho
    obtain ⟨o',ho',hoo⟩:=hL.at i o ho
    have hi2:=(edges_of hsz ho).1 hi
    have hyl:∀ t,yielded L'.toArray t = yielded L.toArray t:=fun t=>by
     funext j
     unfold yielded
     simp only [List.getElem?_toArray]
     cases hj:L[j]? with
     | none =>
      have:L'[j]? = none:=by rw [List.getElem?_eq_none_iff] at hj ⊢;omega
      rw [this]
     | some oj =>
      obtain ⟨oj',hj',hjj⟩:=hL.at j oj hj
      rw [hj']
      rcases hjj with rfl | rfl <;> rfl
    have hcl2:∀ j o,L[j]? = some o→(listed.setIfInBounds i true).getD j false = true→∀ k∈edges o,(listed.setIfInBounds i true).getD k false = true:=fun j oj hoj hl k hk=>by
     by_cases hji:j = i
     ·subst hji
      obtain rfl:oj = o:=Option.some.inj (hoj.symm.trans ho)
      exact getD_set_true (hi2.2 k hk)
     ·rw [getD_set_ne false (fun h=>hji h.symm)] at hl
      exact getD_set_true (hcl j oj hoj hl k hk)
    refine wpOp_mono (fun a w h=>ih _ a w (by simpa using hsz) hcl2 h) ?_
    unfold wpOp at h1 ⊢
    rw [show L'.toArray[i]? = some o' by simpa using ho'] at h1
    rw [show L.toArray[i]? = some o by simpa using ho]
    rw [hyl] at h1
    rcases hoo with rfl | rfl
    ·exact h1
    ·exact h1
structure OnlyN (Q : Exit→AS→Prop) (e:Exit) (σ:AS):Prop where
 how:e = .normal
 run:Q .normal σ
theorem OnlyN.mk' {Q : Exit→AS→Prop} {σ:AS} (h:Q .normal σ):OnlyN Q .normal σ:=⟨rfl,h⟩
theorem DrawOk.float {P : Program} {s0:An} {n:Nat} {id:Nat} {e:Nat} {L L':List Oper} {Q:Exit→AS→Prop} (hm:P.follows .mixedOrders = true) (hL:AddE e L L') (hb:floatB e L L' = true):DrawOk P s0 n id L.toArray L' Q (OnlyN Q):=⟨fun a w h=>by
 have hfz:∀ j,(Array.replicate L.toArray.size false).getD j false = false:=fun j=>by
  rcases Nat.lt_or_ge j L.length with h | h
  ·simp [h]
  ·simp [h]
 have hs:L'.toArray.size = L.toArray.size:=by simp [hL.length]
 rw [hs] at h
 have hp:∀ c a w,¬ lift s0 n (OnlyN Q) (.panic c) a w:=fun c a w ⟨σ,h,_⟩=>by have:=h.how;cases this
 have hl:¬ LetsOut (lift s0 n (OnlyN Q)):=fun ⟨a,w,σ,h,_⟩=>by have:=h.how;cases this
 have h1:=wpAny_float hL hb hp hl _ _ _ _ (by simp) (fun j o _ hl=>by rw [hfz] at hl;cases hl) h
 exact wp_mono (wp_region_any hm h1) fun ex a' w' ⟨σ,h,hs⟩=>by
  obtain ⟨rfl,h⟩:=h
  exact ⟨σ,h,hs⟩⟩
end Go.Proofs.YtnhgojfjmhjokaaGreat
namespace Go.Proofs.YtnhgojfjmhjokaaGreat
open Go.RowKit
section
variable {P : Program} {hp:List Ow} {arg:Operand→AV} {dd:Option Tmp} {ty:TypeId} {ps:String} {af:Array Edge} {gd:Option (Nat × Bool)}
theorem Qz.move {x : Operand} {r:AV} (hx:arg x = r:=by first | exact ao rfl | exact ah rfl):Quiet P hp ⟨dd,.move x,ty,ps,af,gd⟩ arg r:=Qs.move hx
theorem Qz.assign {x : Operand} {r:AV} (hx:arg x = r:=by first | exact ao rfl | exact ah rfl):Quiet P hp ⟨dd,.assign x,ty,ps,af,gd⟩ arg r:=Qs.assign hx
theorem Qz.ldD {x : Operand} {t:TypeId} {d:TypeDesc} {n b T id off:Nat} {z:Value} {ds r:List D} (hx:arg x = .ptr id off:=by first | exact ao rfl | exact ah rfl) (hh:hp[id]? = some (.var T (ds.map .d)):=by exact rfl) (ht:Tab P t d n b z:=by exact (tab_of rfl)) (hd:isAg d = true:=by exact rfl) (hr:subO off n ds = some r:=by exact rfl):Quiet P hp ⟨dd,.load t x,ty,ps,af,gd⟩ arg (.d (agD r)):=Qs.ldD hx hh ht hd hr
theorem Qz.ldD1 {x : Operand} {t:TypeId} {d:TypeDesc} {n b T id off:Nat} {z:Value} {ds:List D} {r:D} (hx:arg x = .ptr id off:=by first | exact ao rfl | exact ah rfl) (hh:hp[id]? = some (.var T (ds.map .d)):=by exact rfl) (ht:Tab P t d n b z:=by exact (tab_of rfl)) (hd:isAg d = false:=by exact rfl) (hr:atO off ds = some r:=by exact rfl):Quiet P hp ⟨dd,.load t x,ty,ps,af,gd⟩ arg (.d r):=Qs.ldD1 hx hh ht hd hr
theorem Qz.loadEf {x : Operand} {t:TypeId} {d:TypeDesc} {n b T:Nat} {z:Value} {ds:List D} (hx:arg x = .d (epD T ds):=by first | exact ao rfl | exact ah rfl) (ht:Tab P t d n b z:=by exact (tab_of rfl)) (hd:isAg d = true:=by exact rfl) (hn:ds.length = n:=by exact rfl):Quiet P hp ⟨dd,.load t x,ty,ps,af,gd⟩ arg (.d (agD ds)):=Qs.loadEf hx ht hd hn
theorem Qz.ldE {x : Operand} {t:TypeId} {d:TypeDesc} {n b T:Nat} {z:Value} {ds r:List D} (hx:arg x = .d (epD T ds):=by first | exact ao rfl | exact ah rfl) (ht:Tab P t d n b z:=by exact (tab_of rfl)) (hd:isAg d = true:=by exact rfl) (hr:takeO n ds = some r:=by exact rfl):Quiet P hp ⟨dd,.load t x,ty,ps,af,gd⟩ arg (.d (agD r)):=Qs.ldE hx ht hd hr
theorem Qz.ldE1 {x : Operand} {t:TypeId} {d:TypeDesc} {n b T:Nat} {z:Value} {ds:List D} {r:D} (hx:arg x = .d (epD T ds):=by first | exact ao rfl | exact ah rfl) (ht:Tab P t d n b z:=by exact (tab_of rfl)) (hd:isAg d = false:=by exact rfl) (hr:atO 0 ds = some r:=by exact rfl):Quiet P hp ⟨dd,.load t x,ty,ps,af,gd⟩ arg (.d r):=Qs.ldE1 hx ht hd hr
theorem Qz.ldX1 {x : Operand} {t:TypeId} {d:TypeDesc} {n b T id off:Nat} {z:Value} {ds:List D} {u:D} (hx:arg x = .ptr id off:=by first | exact ao rfl | exact ah rfl) (hh:hp[id]? = some (.var T (ds.map .d)):=by exact rfl) (ht:Tab P t d n b z:=by exact (tab_of rfl)) (hd:isAg d = false:=by exact rfl) (hc:CellAt ds off u:=by first | exact (CellAt.mon0 (by first | omega | (simp;omega))) | exact (CellAt.tm (by first | omega | (simp;omega)))):Quiet P hp ⟨dd,.load t x,ty,ps,af,gd⟩ arg (.d u):=Qs.ldX1 hx hh ht hd hc
theorem Qz.ldEX1 {x : Operand} {t:TypeId} {d:TypeDesc} {n b T:Nat} {z:Value} {ds:List D} {u:D} (hx:arg x = .d (epD T ds):=by first | exact ao rfl | exact ah rfl) (ht:Tab P t d n b z:=by exact (tab_of rfl)) (hd:isAg d = false:=by exact rfl) (hc:CellAt ds 0 u:=by exact (CellAt.monE (by first | omega | (simp;omega)))):Quiet P hp ⟨dd,.load t x,ty,ps,af,gd⟩ arg (.d u):=Qs.ldEX1 hx ht hd hc
theorem Qz.fldE {x : Operand} {S:TypeId} {fs:Array Field} {f n b n' b' T:Nat} {fd:Field} {d:TypeDesc} {z z':Value} {ds r:List D} (hx:arg x = .d (epD T ds):=by first | exact ao rfl | exact ah rfl) (hS:Tab P S (.struct fs) n b z:=by exact (tab_of rfl)) (hf:fs[f]? = some fd:=by exact rfl) (he:Tab P fd.type d n' b' z':=by exact (tab_of rfl)) (hn:Nat.beq n' 0 = false:=by exact rfl) (hr:dropO fd.offset ds = some r:=by exact rfl):Quiet P hp ⟨dd,.fieldAddr S x f,ty,ps,af,gd⟩ arg (.d (epD T r)):=Qs.fldE hx hS hf he hn hr
theorem Qz.fldP {x : Operand} {S:TypeId} {fs:Array Field} {f n b n' b' id off:Nat} {fd:Field} {d:TypeDesc} {z z':Value} (hx:arg x = .ptr id off:=by first | exact ao rfl | exact ah rfl) (hS:Tab P S (.struct fs) n b z:=by exact (tab_of rfl)) (hf:fs[f]? = some fd:=by exact rfl) (he:Tab P fd.type d n' b' z':=by exact (tab_of rfl)) (hn:Nat.beq n' 0 = false:=by exact rfl):Quiet P hp ⟨dd,.fieldAddr S x f,ty,ps,af,gd⟩ arg (.ptr id (off+fd.offset)):=Qs.fldP hx hS hf he hn
theorem Qz.index0 {α : Type} {x y:Operand} {t:TypeId} {e n b n' b' T sz:Nat} {d:TypeDesc} {z z':Value} {f:α→List D} {a:α} {l:List α} {κ:IntKind} (hx:asD hp (arg x) = some (slD T sz ((a :: l).map f)):=by exact rfl) (hy:arg y = .d (ex (.int κ 0)):=by first | exact ao rfl | exact ah rfl) (ht:Tab P t (.slice e) n b z:=by exact (tab_of rfl)) (he:Tab P e d n' b' z':=by exact (tab_of rfl)) (hsz:n' = sz:=by exact rfl):Quiet P hp ⟨dd,.indexAddr t x y,ty,ps,af,gd⟩ arg (.d (epD T (f a))):=Qs.index0 hx hy ht he hsz
theorem Qz.indexN {α : Type} [Inhabited α] {x y:Operand} {t:TypeId} {e n b n' b' T sz k:Nat} {d:TypeDesc} {z z':Value} {f:α→List D} {l:List α} {κ:IntKind} (hx:asD hp (arg x) = some (slD T sz (l.map f)):=by exact rfl) (hy:arg y = .d (ex (.int κ (k:Nat))):=by first | exact ao rfl | exact ah rfl) (ht:Tab P t (.slice e) n b z:=by exact (tab_of rfl)) (he:Tab P e d n' b' z':=by exact (tab_of rfl)) (hsz:n' = sz:=by exact rfl) (hk:k<l.length:=by first | omega | (simp;omega)):Quiet P hp ⟨dd,.indexAddr t x y,ty,ps,af,gd⟩ arg (.d (epD T (f (l.getD k default)))):=Qs.indexN hx hy ht he hsz hk
theorem Qz.indexL {x y:Operand} {t:TypeId} {e n b n' b' T sz:Nat} {d:TypeDesc} {z z':Value} {rows:List (List D)} {r:List D} {κ:IntKind} {i:Int} (hx:asD hp (arg x) = some (slD T sz rows):=by exact rfl) (hy:arg y = .d (ex (.int κ i)):=by first | exact ao rfl | exact ah rfl) (ht:Tab P t (.slice e) n b z:=by exact (tab_of rfl)) (he:Tab P e d n' b' z':=by exact (tab_of rfl)) (hsz:n' = sz:=by exact rfl) (hr:rowO rows i.toNat = some r:=by exact rfl) (h0:0≤i:=by omega):Quiet P hp ⟨dd,.indexAddr t x y,ty,ps,af,gd⟩ arg (.d (epD T r)):=Qs.indexL hx hy ht he hsz hr h0
theorem Qz.ixP {x y:Operand} {t:TypeId} {e n b n' b' len id off k:Nat} {d:TypeDesc} {z z':Value} {κ:IntKind} (hx:arg x = .ptr id off:=by first | exact ao rfl | exact ah rfl) (hy:arg y = .d (ex (.int κ ((k:Nat):Int))):=by first | exact ao rfl | exact ah rfl) (ht:Tab P t (.array len e) n b z:=by exact (tab_of rfl)) (he:Tab P e d n' b' z':=by exact (tab_of rfl)) (hk:k<len:=by first | omega | (simp;omega)):Quiet P hp ⟨dd,.indexAddr t x y,ty,ps,af,gd⟩ arg (.ptr id (off+k*n')):=Qs.ixP hx hy ht he hk
theorem Qz.ixE {x y:Operand} {t:TypeId} {e n b n' b' len T k:Nat} {d:TypeDesc} {z z':Value} {ds:List D} {κ:IntKind} (hx:arg x = .d (epD T ds):=by first | exact ao rfl | exact ah rfl) (hy:arg y = .d (ex (.int κ ((k:Nat):Int))):=by first | exact ao rfl | exact ah rfl) (ht:Tab P t (.array len e) n b z:=by exact (tab_of rfl)) (he:Tab P e d n' b' z':=by exact (tab_of rfl)) (hk:k<len:=by first | omega | (simp;omega)):Quiet P hp ⟨dd,.indexAddr t x y,ty,ps,af,gd⟩ arg (.d (epD T (ds.drop (k*n')))):=Qs.ixE hx hy ht he hk
theorem Qz.ixPL {x y:Operand} {t:TypeId} {e n b n' b' len id off:Nat} {d:TypeDesc} {z z':Value} {κ:IntKind} {i:Int} (hx:arg x = .ptr id off:=by first | exact ao rfl | exact ah rfl) (hy:arg y = .d (ex (.int κ i)):=by first | exact ao rfl | exact ah rfl) (ht:Tab P t (.array len e) n b z:=by exact (tab_of rfl)) (he:Tab P e d n' b' z':=by exact (tab_of rfl)) (h0:0≤i:=by decide) (hl:i<len:=by decide):Quiet P hp ⟨dd,.indexAddr t x y,ty,ps,af,gd⟩ arg (.ptr id (off+i.toNat*n')):=Qs.ixPL hx hy ht he h0 hl
theorem Qz.indexW {x y:Operand} {t:TypeId} {e n b b' k:Nat} {d:TypeDesc} {z z':Value} {l:List Nat} {κ:IntKind} (hx:arg x = .d (wD l):=by first | exact ao rfl | exact ah rfl) (hy:arg y = .d (ex (.int κ ((k:Nat):Int))):=by first | exact ao rfl | exact ah rfl) (ht:Tab P t (.slice e) n b z:=by exact (tab_of rfl)) (he:Tab P e d 1 b' z':=by exact (tab_of rfl)) (hk:k<l.length:=by first | omega | (simp;omega)):Quiet P hp ⟨dd,.indexAddr t x y,ty,ps,af,gd⟩ arg (.d (epD 139 [ex (.int .u32 (l.getD k 0:Nat))])):=Qs.indexW hx hy ht he hk
theorem Qz.tailN {α : Type} {x y:Operand} {t:TypeId} {e n b n' b' T sz:Nat} {d:TypeDesc} {z z':Value} {f:α→List D} {a:α} {l:List α} (hx:asD hp (arg x) = some (slD T sz ((a :: l).map f)):=by exact rfl) (hy:arg y = .d (ex (.int .i64 1)):=by first | exact ao rfl | exact ah rfl) (ht:Tab P t (.slice e) n b z:=by exact (tab_of rfl)) (he:Tab P e d n' b' z':=by exact (tab_of rfl)) (hsz:n' = sz:=by exact rfl):Quiet P hp ⟨dd,.slice t x (some y) none none,ty,ps,af,gd⟩ arg (.d (slD T sz (l.map f))):=Qs.tailN hx hy ht he hsz
theorem Qz.lenN {α : Type} {x:Operand} {t:TypeId} {e n b T sz:Nat} {z:Value} {f:α→List D} {l:List α} (hx:asD hp (arg x) = some (slD T sz (l.map f)):=by exact rfl) (ht:Tab P t (.slice e) n b z:=by exact (tab_of rfl)):Quiet P hp ⟨dd,.call { callee:=.builtin .len,args:=#[x],argTypes:=#[t] },ty,ps,af,gd⟩ arg (.d (ex (.int .i64 (l.length:Nat)))):=Qs.lenN hx ht
theorem Qz.lenW {x : Operand} {t:TypeId} {e n b:Nat} {z:Value} {l:List Nat} (hx:arg x = .d (wD l):=by first | exact ao rfl | exact ah rfl) (ht:Tab P t (.slice e) n b z:=by exact (tab_of rfl)):Quiet P hp ⟨dd,.call { callee:=.builtin .len,args:=#[x],argTypes:=#[t] },ty,ps,af,gd⟩ arg (.d (ex (.int .i64 (l.length:Nat)))):=Qs.lenW hx ht
theorem Qz.len {x : Operand} {t:TypeId} {e n b T sz:Nat} {z:Value} {rows:List (List D)} (hx:asD hp (arg x) = some (slD T sz rows):=by exact rfl) (ht:Tab P t (.slice e) n b z:=by exact (tab_of rfl)):Quiet P hp ⟨dd,.call { callee:=.builtin .len,args:=#[x],argTypes:=#[t] },ty,ps,af,gd⟩ arg (.d (ex (.int .i64 rows.length))):=Qs.len hx ht
theorem Qz.succ {T U:TypeId} {x y:Operand} {a:Nat} (hx:arg x = .d (ex (.int .i64 (a:Nat))):=by first | exact ao rfl | exact ah rfl) (hy:arg y = .d (ex (.int .i64 1)):=by first | exact ao rfl | exact ah rfl) (h1:(a:Int)<9223372036854775807:=by omega):Quiet P hp ⟨dd,.binOp .add T x y U,ty,ps,af,gd⟩ arg (.d (ex (.int .i64 ((a+1:Nat):Int)))):=Qs.succ hx hy h1
theorem Qz.add {T U:TypeId} {x y:Operand} {a b:Int} (hx:arg x = .d (ex (.int .i64 a)):=by first | exact ao rfl | exact ah rfl) (hy:arg y = .d (ex (.int .i64 b)):=by first | exact ao rfl | exact ah rfl) (h1:-9223372036854775808≤a+b:=by omega) (h2:a+b≤9223372036854775807:=by omega):Quiet P hp ⟨dd,.binOp .add T x y U,ty,ps,af,gd⟩ arg (.d (ex (.int .i64 (a+b)))):=Qs.add hx hy h1 h2
theorem Qz.pred {T U:TypeId} {x y:Operand} {a:Nat} (hx:arg x = .d (ex (.int .i64 ((a:Nat):Int))):=by first | exact ao rfl | exact ah rfl) (hy:arg y = .d (ex (.int .i64 1)):=by first | exact ao rfl | exact ah rfl) (h0:0<a:=by omega) (h1:(a:Int)<9223372036854775807:=by omega):Quiet P hp ⟨dd,.binOp .sub T x y U,ty,ps,af,gd⟩ arg (.d (ex (.int .i64 ((a - 1:Nat):Int)))):=Qs.pred hx hy h0 h1
theorem Qz.rem {T U:TypeId} {x y:Operand} {k:IntKind} {a b:Int} (hx:arg x = .d (ex (.int k a)):=by first | exact ao rfl | exact ah rfl) (hy:arg y = .d (ex (.int k b)):=by first | exact ao rfl | exact ah rfl) (h0:0≤a:=by omega) (hb:0<b:=by omega):Quiet P hp ⟨dd,.binOp .rem T x y U,ty,ps,af,gd⟩ arg (.d (ex (.int k (a % b)))):=Qs.rem hx hy h0 hb
theorem Qz.cmpT {op : BinOp} {T U:TypeId} {x y:Operand} {k:IntKind} {a b:Int} (hb:isCmp op = true:=by exact rfl) (hx:arg x = .d (ex (.int k a)):=by first | exact ao rfl | exact ah rfl) (hy:arg y = .d (ex (.int k b)):=by first | exact ao rfl | exact ah rfl) (hc:cmpP op a b:=by first | (simp only [cmpP,List.length_cons,List.length_nil];omega) | (simp [cmpP];done) | (simp [cmpP];omega)):Quiet P hp ⟨dd,.binOp op T x y U,ty,ps,af,gd⟩ arg (.d (ex (.bool true))):=Qs.cmpT hb hx hy hc
theorem Qz.cmpF {op : BinOp} {T U:TypeId} {x y:Operand} {k:IntKind} {a b:Int} (hb:isCmp op = true:=by exact rfl) (hx:arg x = .d (ex (.int k a)):=by first | exact ao rfl | exact ah rfl) (hy:arg y = .d (ex (.int k b)):=by first | exact ao rfl | exact ah rfl) (hc:¬ cmpP op a b:=by first | (simp only [cmpP,List.length_cons,List.length_nil];omega) | (simp [cmpP];done) | (simp [cmpP];omega)):Quiet P hp ⟨dd,.binOp op T x y U,ty,ps,af,gd⟩ arg (.d (ex (.bool false))):=Qs.cmpF hb hx hy hc
theorem Qz.cmp {op : BinOp} {T U:TypeId} {x y:Operand} {k:IntKind} {a b:Int} {c:Bool} (hx:arg x = .d (ex (.int k a)):=by first | exact ao rfl | exact ah rfl) (hy:arg y = .d (ex (.int k b)):=by first | exact ao rfl | exact ah rfl) (hc:cmpB op a b = some c:=by exact rfl):Quiet P hp ⟨dd,.binOp op T x y U,ty,ps,af,gd⟩ arg (.d (ex (.bool c))):=Qs.cmp hx hy hc
theorem Qz.eqMonT {x y:Operand} {U:TypeId} {a b:Nat→Int} (hx:arg x = .d (agD (monC a)):=by first | exact ao rfl | exact ah rfl) (hy:arg y = .d (agD (monC b)):=by first | exact ao rfl | exact ah rfl) (h:eqB a b = true:=by assumption):Quiet Tryz.prog hp ⟨dd,.binOp .eql 70 x y U,ty,ps,af,gd⟩ arg (.d (ex (.bool true))):=Qs.eqMonT hx hy h
theorem Qz.eqMonF {x y:Operand} {U:TypeId} {a b:Nat→Int} (hx:arg x = .d (agD (monC a)):=by first | exact ao rfl | exact ah rfl) (hy:arg y = .d (agD (monC b)):=by first | exact ao rfl | exact ah rfl) (h:eqB a b = false:=by assumption):Quiet Tryz.prog hp ⟨dd,.binOp .eql 70 x y U,ty,ps,af,gd⟩ arg (.d (ex (.bool false))):=Qs.eqMonF hx hy h
theorem Qz.eqBool {x y:Operand} {T U:TypeId} {a b:Bool} (hx:arg x = .d (ex (.bool a)):=by first | exact ao rfl | exact ah rfl) (hy:arg y = .d (ex (.bool b)):=by first | exact ao rfl | exact ah rfl) (hT:P.underlying T = some .bool:=by kernel_rfl):Quiet P hp ⟨dd,.binOp .eql T x y U,ty,ps,af,gd⟩ arg (.d (ex (.bool (a == b)))):=Qs.eqBool hx hy hT
theorem Qz.not {T : TypeId} {x:Operand} {a:Bool} (hx:arg x = .d (ex (.bool a)):=by first | exact ao rfl | exact ah rfl):Quiet P hp ⟨dd,.unOp .not T x,ty,ps,af,gd⟩ arg (.d (ex (.bool (!a)))):=Qs.not hx
theorem Qz.max {x y:Operand} {tys:Array TypeId} {k:IntKind} {a b:Int} (hx:arg x = .d (ex (.int k a)):=by first | exact ao rfl | exact ah rfl) (hy:arg y = .d (ex (.int k b)):=by first | exact ao rfl | exact ah rfl):Quiet P hp ⟨dd,.call { callee:=.builtin .max,args:=#[x,y],argTypes:=tys },ty,ps,af,gd⟩ arg (.d (ex (.int k (Max.max a b)))):=Qs.max hx hy
theorem Qz.ext {x : Operand} {i:Nat} {ds:List D} {r:D} (hx:arg x = .d (tupD ds):=by first | exact ao rfl | exact ah rfl) (hr:atO i ds = some r:=by exact rfl):Quiet P hp ⟨dd,.extract x i,ty,ps,af,gd⟩ arg (.d r):=Qs.ext hx hr
theorem Qz.pickT {c x y:Operand} {r:AV} (hx:arg x = r:=by first | exact ao rfl | exact ah rfl) (hc:arg c = .d (ex (.bool true)):=by first | exact ao rfl | exact ah rfl):Quiet P hp ⟨dd,.pick c x y,ty,ps,af,gd⟩ arg r:=Qs.pickT hx hc
theorem Qz.pickF {c x y:Operand} {r:AV} (hy:arg y = r:=by first | exact ao rfl | exact ah rfl) (hc:arg c = .d (ex (.bool false)):=by first | exact ao rfl | exact ah rfl):Quiet P hp ⟨dd,.pick c x y,ty,ps,af,gd⟩ arg r:=Qs.pickF hy hc
theorem Qz.conv64 {S T:TypeId} {x:Operand} {k:IntKind} {a:Int} {d:TypeDesc} {n b n' b':Nat} {z z':Value} (hx:arg x = .d (ex (.int k a)):=by first | exact ao rfl | exact ah rfl) (hS:Tab P S d n b z:=by exact (tab_of rfl)) (hT:Tab P T (.int .i64) n' b' z':=by exact (tab_of rfl)) (h1:-9223372036854775808≤a:=by omega) (h2:a≤9223372036854775807:=by omega):Quiet P hp ⟨dd,.convert S T x,ty,ps,af,gd⟩ arg (.d (ex (.int .i64 a))):=Qs.conv64 hx hS hT h1 h2
theorem Qz.call {f : Operand} {args:List Operand} {tys:Array TypeId} {fid:FuncId} {ds:List D} {r:D} (hc:Abs P fid ds r) (hf:arg f = .d (ex (.func (.func fid) #[] #[])):=by first | exact ao rfl | exact ah rfl) (ha:ArgsLe hp arg args ds:=by repeat (first | exact ArgsLe.nil | refine ArgsLe.cons rfl (D.le.refl _) ?_ | refine ArgsLe.cons rfl D.le_nil ?_)):Quiet P hp ⟨dd,.call { callee:=.value f,args:=args.toArray,argTypes:=tys },ty,ps,af,gd⟩ arg (.d r):=Qs.call hf hc ha
end
section
variable {P : Program} {s0:An} {n:Nat} {ops:Array Oper} {Q:Exit→AS→Prop} {rest:List Oper} {fr:List (Nat × AV)} {hp:List Ow} {ty:TypeId} {ps:String} {af:Array Edge} {d:Nat} {op:Op} {r:AV}
theorem Wq (hq : Quiet P hp ⟨some d,op,ty,ps,af,none⟩ (AS.arg ⟨fr,hp⟩) r) (h:AWl P s0 n ops Q rest ⟨(d,r) :: fr,hp⟩) (hs:notSelect op = true:=by exact rfl) (hd:Nat.blt d n = true:=by exact rfl):AWl P s0 n ops Q (⟨some d,op,ty,ps,af,none⟩ :: rest) ⟨fr,hp⟩:=AWs.q hs hd ⟨r,hq,h⟩
theorem Wg {j : Nat} {b:Bool} {e:Nat} (hq:Quiet P hp ⟨some d,op,ty,ps,af,some (j,b)⟩ (AS.arg ⟨fr,hp⟩) r) (h:AWl P s0 n ops Q rest ⟨(d,r) :: fr,hp⟩) (hy:(ops[j]?).bind (·.dst) = some e:=by exact rfl) (hl:look fr e = some (.d (ex (.bool b))):=by exact rfl) (hen:Nat.blt e n = true:=by exact rfl) (hs:notSelect op = true:=by exact rfl) (hd:Nat.blt d n = true:=by exact rfl):AWl P s0 n ops Q (⟨some d,op,ty,ps,af,some (j,b)⟩ :: rest) ⟨fr,hp⟩:=AWs.qG hy hl hen hs hd ⟨r,hq,h⟩
theorem Ws {j : Nat} {b:Bool} {u:Value} {e:Nat} (h:AWl P s0 n ops Q rest ⟨(d,.d (ex undef)) :: fr,hp⟩) (hy:(ops[j]?).bind (·.dst) = some e:=by exact rfl) (hl:look fr e = some (.d (ex u)):=by exact rfl) (hne:isB u b = false:=by exact rfl) (hen:Nat.blt e n = true:=by exact rfl) (hd:Nat.blt d n = true:=by exact rfl):AWl P s0 n ops Q (⟨some d,op,ty,ps,af,some (j,b)⟩ :: rest) ⟨fr,hp⟩:=AWs.sG hy hl hne hen hd h
end
section
variable {P : Program} {σ:AS} {K:List HR→Prop} {acc acc':List HR} {o:Oper} {L:List Oper} {e:List (Nat × Nat)} {es:List (List (Nat × Nat))} {r:AV}
theorem Xq (hq : Quiet P σ.hp o (argH σ acc e) r) (h:HS P σ K acc' L es) (hg:o.guard = none:=by exact rfl) (ha:snocH acc (.av r) = some acc':=by exact rfl):HS P σ K acc (o :: L) (e :: es):=⟨_,HStep.q hg hq,_,ha,h⟩
theorem Xg {j : Nat} {b:Bool} (hq:Quiet P σ.hp o (argH σ acc e) r) (h:HS P σ K acc' L es) (hg:o.guard = some (j,b):=by exact rfl) (hj:acc[j]? = some (.av (.d (ex (.bool b)))):=by exact rfl) (ha:snocH acc (.av r) = some acc':=by exact rfl):HS P σ K acc (o :: L) (e :: es):=⟨_,HStep.gT hg hj hq,_,ha,h⟩
theorem Xs {j : Nat} {b:Bool} {u:Value} (h:HS P σ K acc' L es) (hg:o.guard = some (j,b):=by exact rfl) (hj:acc[j]? = some (.av (.d (ex u))):=by exact rfl) (hne:isB u b = false:=by exact rfl) (ha:snocH acc (.av (.d (ex undef))) = some acc':=by exact rfl):HS P σ K acc (o :: L) (e :: es):=⟨_,HStep.gF hg hj hne,_,ha,h⟩
theorem Xn {T n b:Nat} {d:TypeDesc} {z:Value} (h:HS P σ K acc' L es) (hg:o.guard = none:=by exact rfl) (hop:o.op = .alloc T:=by exact rfl) (ht:Tab P T d n b z:=by exact tab_of rfl) (hT:T ≠ 139:=by decide) (h1:one1 z.cells.toList = true:=by exact rfl) (ha:snocH acc (.new T z.cells.toList) = some acc':=by exact rfl):HS P σ K acc (o :: L) (e :: es):=⟨_,HStep.n hg ht hop hT h1,_,ha,h⟩
end
end Go.Proofs.YtnhgojfjmhjokaaGreat
set_option linter.unusedSimpArgs false
set_option linter.unusedVariables false
namespace Go.Proofs.YtnhgojfjmhjokaaGreat
open Go.RowKit
section
variable {P : Program} {s0:An} {n:Nat} {ops:Array Oper} {Q:Exit→AS→Prop} {σ:AS}
theorem Yn {K : AS→Prop} (h:K σ):AThen K Q .normal σ:=AThen.normal h
theorem Y0 {K : AS→Prop} (h:K σ):AWl P s0 n ops (AThen K Q) [] σ:=AWl.nil (AThen.normal h)
theorem Y1 {y : Code} {i:Nat} {l:List Oper} (h:AWl P s0 n l.toArray (AThen (AWp P s0 n y Q) Q) l σ):AWp P s0 n (.seq (.region i l.toArray false) y) Q σ:=AWp.seq (AWp.region h)
theorem Ys {K : AS→Prop} (h:K σ):AWp P s0 n .skip (AThen K Q) σ:=AWp.skip (AThen.normal h)
end
theorem Yf {P : Program} {fn:Func} {r:D} {σ:AS} {t:Nat} {av:AV} (hr:fn.results = #[.tmp t]:=by exact rfl) (h:look σ.fr t = some av:=by exact rfl) (hx:asD σ.hp av = some r:=by exact rfl):Fin P fn r .ret σ:=Fin.ret (by rw [hr];exact Rets.of1 (ResV.tmp h hx) (D.le.refl _))
theorem Ab {P : Program} {f : FuncId} {fn : Func} {c : Code} {ds : List D} {r : D} (hf : P.funcs[f]? = some fn) (h : ∀ s0, AWp P s0 fn.ntmps c (Fin P fn r) ⟨params 0 ds, []⟩) (hb : fn.body = some c := by exact rfl) (h1 : (fn.name == "runtime.NumGoroutine") = false := by kernel_rfl) (h2 : fn.body.isNone = false := by kernel_rfl) (hn : Nat.ble ds.length fn.ntmps = true := by exact rfl) : Abs P f ds r := Abs.intro hf hb (callFunc_run hf h1 h2) hn h
section
variable {P : Program} {s0:An} {n:Nat} {ops:Array Oper} {Q:Exit→AS→Prop} {fr:List (Nat × AV)} {hp hp':List Ow} {rest:List Oper} {ty:TypeId} {ps:String} {af:Array Edge} {d:Nat} {x:Operand} {r:AV}
theorem Wm (h : AWl P s0 n ops Q rest ⟨(d,r) :: fr,hp⟩) (hx:AS.arg ⟨fr,hp⟩ x = r:=by exact ao rfl) (hd:Nat.blt d n = true:=by exact rfl):AWl P s0 n ops Q (⟨some d,.move x,ty,ps,af,none⟩ :: rest) ⟨fr,hp⟩:=Wq (Qs.move hx) h rfl hd
theorem Wa (h : AWl P s0 n ops Q rest ⟨(d,r) :: fr,hp⟩) (hx:AS.arg ⟨fr,hp⟩ x = r:=by exact ao rfl) (hd:Nat.blt d n = true:=by exact rfl):AWl P s0 n ops Q (⟨some d,.assign x,ty,ps,af,none⟩ :: rest) ⟨fr,hp⟩:=Wq (Qs.assign hx) h rfl hd
theorem Ct {y z:Code} (h:AWp P s0 n y Q ⟨fr,hp⟩) (hx:AS.arg ⟨fr,hp⟩ x = .d (ex (.bool true)):=by exact ao rfl):AWp P s0 n (.cond x y z) Q ⟨fr,hp⟩:=AWp.condT hx h
theorem Cf {y z:Code} (h:AWp P s0 n z Q ⟨fr,hp⟩) (hx:AS.arg ⟨fr,hp⟩ x = .d (ex (.bool false)):=by exact ao rfl):AWp P s0 n (.cond x y z) Q ⟨fr,hp⟩:=AWp.condF hx h
theorem Sf {T T0:TypeId} {t:TypeDesc} {b id m:Nat} {z:Value} {y:Operand} {cells:List AV} {ds:List D} (h:AWl Tryz.prog s0 n ops Q rest ⟨fr,hp'⟩) (hx:AS.arg ⟨fr,hp⟩ x = .ptr id 0:=by exact ao rfl) (hy:AS.arg ⟨fr,hp⟩ y = .d (agD ds):=by exact ao rfl) (hh:hp[id]? = some (.var T0 cells):=by exact rfl) (ht:Tab Tryz.prog T t m b z:=by exact tab_of rfl) (hm:ds.length = m:=by exact rfl) (hoff:cells.length = m:=by exact rfl) (hs:setO hp id (.var T0 (ds.map .d)) = some hp':=by exact rfl):AWl Tryz.prog s0 n ops Q (⟨none,.store T x y,ty,ps,af,none⟩ :: rest) ⟨fr,hp⟩:=AWs.stF hx hy hh ht hm hoff hs h
theorem Al {T : TypeId} {d:TypeDesc} {m b k t:Nat} {z:Value} {c:List D} (h:AWl Tryz.prog s0 n ops Q rest ⟨(t,.ptr k 0) :: fr,hp'⟩) (ht:Tab Tryz.prog T d m b z:=by exact tab_of rfl) (hT:Nat.beq T 139 = false:=by exact rfl) (h1:one1 z.cells.toList = true:=by exact rfl) (hd:Nat.blt t n = true:=by exact rfl) (hc:exO z.cells.toList = some c:=by exact rfl) (hk:lenO hp = some k:=by exact rfl) (hs:snocO hp (.var T (c.map .d)) = some hp':=by exact rfl):AWl Tryz.prog s0 n ops Q (⟨some t,.alloc T,ty,ps,af,none⟩ :: rest) ⟨fr,hp⟩:=AWs.al ht hT h1 hd hc hk hs h
theorem Bx {T : TypeId} {ds:List D} {k t:Nat} (h:AWl P s0 n ops Q rest ⟨(t,.ptr k 0) :: fr,hp'⟩) (hx:AS.arg ⟨fr,hp⟩ x = .d (agD ds):=by exact ao rfl) (hT:Nat.beq T 139 = false:=by exact rfl) (hd:Nat.blt t n = true:=by exact rfl) (hk:lenO hp = some k:=by exact rfl) (hs:snocO hp (.var T (ds.map .d)) = some hp':=by exact rfl):AWl P s0 n ops Q (⟨some t,.box T x,ty,ps,af,none⟩ :: rest) ⟨fr,hp⟩:=AWs.bx hx hT hd hk hs h
theorem Ap {x y:Operand} {t T T2 sz bytes id m b e:Nat} {z z':Value} {d:TypeDesc} {rows r2:List (List D)} {fr':List (Nat × AV)} (h:AWl Tryz.prog s0 n ops Q rest ⟨(e,.own id) :: fr',hp'⟩) (hx:AS.arg ⟨fr,hp⟩ x = .own id:=by exact ao rfl) (hy:asD hp (AS.arg ⟨fr,hp⟩ y) = some (slD T2 sz r2):=by exact rfl) (hh:hp[id]? = some (.row T sz rows):=by exact rfl) (ht:Tab Tryz.prog t (.slice T) m b z':=by exact tab_of rfl) (hT:Tab Tryz.prog T d sz bytes z:=by exact tab_of rfl) (hzs:z.cells.size = sz:=by exact rfl) (hd:Nat.blt e n = true:=by exact rfl) (hbytes:(rows.length+r2.length)*bytes≤140737488355328:=by simp;omega) (h63:rows.length+r2.length≤4611686018427387904:=by simp;omega) (hf:downO id (slD T sz rows) fr = some fr':=by exact rfl) (hpl:PlainHp id hp:=by repeat (first | exact PlainHp.nil | refine PlainHp.var ?_ | refine PlainHp.row ?_ | refine PlainHp.dead ?_ | refine PlainHp.obj ?_ | refine PlainHp.pin rfl ?_ | refine PlainHp.varA rfl ?_)) (hs:setO hp id (.row T sz (rows ++ r2)) = some hp':=by exact rfl):AWl Tryz.prog s0 n ops Q (⟨some e,.call { callee:=.builtin .append,args:=#[x,y],argTypes:=#[t,t] },ty,ps,af,none⟩ :: rest) ⟨fr,hp⟩:=AWs.app hx hy hh ht hT hzs hd hbytes h63 hf hpl hs h
end
section
variable {hp : List Ow} {m T z:Nat} {l l':List Ow}
theorem Yr {r : List (List D)} (h:HpLe hp m l l'):HpLe hp m (.row T z r :: l) (.row T z r :: l'):=HpLe.cons (OwLe.row rfl) h
theorem Yv {c : List D} (h:HpLe hp m l l'):HpLe hp m (.var T (c.map .d) :: l) (.var T (c.map .d) :: l'):=HpLe.cons (OwLe.varD rfl) h
theorem Yd {t : Nat} {x:D} {f r:List (Nat × AV)} (h:FrLe hp m f r) (hk:look f t = some (.d x):=by exact rfl):FrLe hp m f ((t,.d x) :: r):=FrLe.cons hk (AVle.d rfl) h
theorem Yp {t i o:Nat} {f r:List (Nat × AV)} (h:FrLe hp m f r) (hk:look f t = some (.ptr i o):=by exact rfl) (hi:Nat.blt i m = true:=by exact rfl):FrLe hp m f ((t,.ptr i o) :: r):=FrLe.cons hk (AVle.ptr hi) h
end
theorem K4 {e : Nat} {a b c d:Oper} {l l':List Oper} (h:AddE e l l'):AddE e (a :: b :: c :: d :: l) (a :: b :: c :: d :: l'):=.keep (.keep (.keep (.keep h)))
end Go.Proofs.YtnhgojfjmhjokaaGreat
namespace Go.Proofs.YtnhgojfjmhjokaaGreat
open Go.RowKit
def fT (f : Rat→Rat) (t:Tm):Tm:=⟨f t.c,t.m⟩
def mrgF (f : Rat→Rat) (P Q:List Tm):List Tm:=mrg P (Q.map (fT f))
theorem mrgF_gt {f : Rat→Rat} {s t:Tm} {P Q:List Tm} (h:lx s.m t.m = 1):mrgF f (s :: P) (t :: Q) = s :: mrgF f P (t :: Q):=by
 unfold mrgF
 rw [List.map_cons,mrg,if_pos (show 0<lx s.m (fT f t).m by show 0<lx s.m t.m;omega)]
theorem mrgF_lt {f : Rat→Rat} {s t:Tm} {P Q:List Tm} (h:lx s.m t.m = -1):mrgF f (s :: P) (t :: Q) = fT f t :: mrgF f (s :: P) Q:=by
 unfold mrgF
 rw [List.map_cons,mrg,if_neg (show ¬ 0<lx s.m (fT f t).m by show ¬ 0<lx s.m t.m;omega),if_pos (show lx s.m (fT f t).m<0 by show lx s.m t.m<0;omega)]
theorem mrgF_eq {f : Rat→Rat} {s t:Tm} {P Q:List Tm} (h:lx s.m t.m = 0):mrgF f (s :: P) (t :: Q) = if s.c+f t.c = 0 then mrgF f P Q else ⟨s.c+f t.c,s.m⟩ :: mrgF f P Q:=by
 unfold mrgF
 rw [List.map_cons,mrg,if_neg (show ¬ 0<lx s.m (fT f t).m by show ¬ 0<lx s.m t.m;omega),if_neg (show ¬ lx s.m (fT f t).m<0 by show ¬ lx s.m t.m<0;omega)]
 rfl
theorem mrgF_nil {f : Rat→Rat} {P Q:List Tm} (h:P = []∨Q = []):mrgF f P Q = P ++ Q.map (fT f):=by
 rcases h with rfl | rfl
 ·simp [mrgF,mrg]
 ·simp [mrgF,mrg_nil]
theorem merge_abs (P Q:List Tm) (fid:FuncId) (f:Rat→Rat) (N M:Nat) (hP:PSz P N) (hQ:PSz Q M) (hNM:N+M+1≤4398046511104) (hfs:∀ q,RSz q M→RSz (f q) M) (hn:P.length+Q.length≤100000)
  (hf:∀ q,RSz q M→Abs Tryz.prog fid [agD (ratC q)] (agD (ratC (f q)))) :
  Abs Tryz.prog 89 [polD P,polD Q,ex (.func (.func fid) #[] #[])] (polD (mrgF f P Q)):=by
 refine Ab Tryz.func89 fun s0=>?_
 rw [Tryz.ntmps89]
 apply Y1;refine Wa ?_;apply Y0;apply Y1;refine Wm ?_;refine Wq Qz.lenN ?_;refine Wm ?_;refine Wq Qz.lenN ?_;refine Wq Qz.add ?_;refine AWs.mk0 (ao rfl) (ao rfl) (tab_of rfl) (tab_of rfl) (by omega) (by omega) rfl rfl rfl rfl rfl rfl ?_;refine Wa ?_;apply Y0;apply AWp.seq;apply AWp.block
 refine AWp.loop (fun m σ=>∃ P' Q' R,R ++ mrgF f P' Q' = mrgF f P Q∧PSz P' N∧PSz Q' M∧R.length+P'.length+Q'.length≤100000∧m = P'.length+Q'.length∧σ = ⟨[(0,.d (polD P')),(1,.d (polD Q')),(2,.d (ex (.func (.func fid) #[] #[]))),(7,.own 0)],[.row 72 12 (R.map tmC)]⟩) ?le ⟨P,Q,[],rfl,hP,hQ,by simpa using hn,rfl,rfl⟩ ?round
 case le=>exact AS.le_of (by refine Yd ?_;refine Yd ?_;refine Yd ?_;refine FrLe.cons rfl (AVle.own rfl) ?_;exact FrLe.nil) (by apply Yr;exact HpLe.nil)
 case round =>
  rintro m _ ⟨P',Q',R,heq,hP',hQ',hl,rfl,rfl⟩
  rcases (show (0<P'.length∧0<Q'.length)∨P'.length = 0∨(0<P'.length∧Q'.length = 0) by omega) with ⟨h1,h2⟩ | h1 | ⟨h1,h2⟩
  ·obtain ⟨s, P', rfl⟩ : ∃ s P1, P' = s :: P1 := by cases P' with | nil => simp at h1 | cons s P1 => exact ⟨s, P1, rfl⟩
   obtain ⟨t,Q',rfl⟩:∃ t Q1,Q' = t :: Q1:=by cases Q' with | nil=>simp at h2 | cons t Q1=>exact ⟨t,Q1,rfl⟩
   simp only [List.length_cons] at hl
   have hs:=hP' s (by simp)
   have ht:=hQ' t (by simp)
   have hP1:PSz P' N:=fun u hu=>hP' u (by simp [hu])
   have hQ1:PSz Q' M:=fun u hu=>hQ' u (by simp [hu])
   apply AWp.seq;apply Y1;refine Wm ?_;refine Wq Qz.lenN ?_;refine Wq Qz.cmpT ?_;refine Wm ?_;refine Wg Qz.move ?_;refine Wg Qz.lenN ?_;refine Wg Qz.cmpT ?_;refine Wq Qz.pickT ?_;apply Y0;refine Ct ?_;apply Ys;apply AWp.block;apply AWp.seq
   refine AWp.dr' (DrawOk.self (by kernel_rfl)) [[],[(25,0)],[(26,1)],[(27,2)],[],[(29,4)],[(30,5)],[(31,6)],[(28,3),(32,7)]] [[],[0],[0,1],[0,1,2],[],[4],[4,5],[4,5,6],[0,1,2,3,4,5,6,7]] rfl (by kernel_rfl) (by kernel_rfl) (by kernel_rfl) ?_
   refine Xq Qz.move ?_;refine Xq Qz.index0 ?_;refine Xq Qz.fldE ?_;refine Xq Qz.loadEf ?_;refine Xq Qz.move ?_;refine Xq Qz.index0 ?_;refine Xq Qz.fldE ?_;refine Xq Qz.loadEf ?_;refine Xq (Qz.call (mCmp_abs s.m t.m)) ?_;refine ⟨_,rfl,?_⟩
   rcases lx_val s.m t.m with hc | hc | hc
   ·have hc' : lex8 s.m t.m = -1 := by rw [← lx_lex]; exact hc
    simp only [hc']
    apply Y0;apply AWp.block;apply Y1;refine Wq Qz.cmpF ?_;refine Wa ?_;apply Y0;refine Cf ?_;apply Y1;refine Wq Qz.cmpT ?_;refine Wa ?_;apply Y0;refine Ct ?_;apply AWp.seq
    refine AWp.dr' (DrawOk.self (by kernel_rfl)) [[],[],[],[(75,2)],[(76,3)],[(77,4)],[(74,1),(78,5)],[],[(80,7)],[(81,8)],[(82,9)],[(79,6),(83,10)],[(84,11)]] [[],[],[],[2],[2,3],[2,3,4],[1,2,3,4,5],[],[7],[7,8],[7,8,9],[1,2,3,4,5,6,7,8,9,10],[1,2,3,4,5,6,7,8,9,10,11]] rfl (by kernel_rfl) (by kernel_rfl) (by kernel_rfl) ?_
    refine Xq Qz.move ?_;refine Xq Qz.move ?_;refine Xq Qz.move ?_;refine Xq Qz.index0 ?_;refine Xq Qz.fldE ?_;refine Xq Qz.ldE ?_;refine Xq (Qz.call (hf t.c ht)) ?_;refine Xq Qz.move ?_;refine Xq Qz.index0 ?_;refine Xq Qz.fldE ?_;refine Xq Qz.loadEf ?_;(refine Hq rfl ?_;refine Bq.build (tab_of rfl) rfl rfl rfl ?_;(repeat ((first | refine ⟨_,PartOk.ag (ah rfl),?_⟩ | refine ⟨_,PartOk.one rfl (by first | exact One.ex_ rfl | exact One.sl | exact One.ep),?_⟩);refine ⟨_,rfl,?_⟩));refine ⟨_,rfl,?_⟩;refine ⟨_,rfl,?_⟩);(refine Xq (Bq.slice1 (ah rfl) (tab_of rfl) (tab_of rfl) rfl rfl rfl rfl rfl) ?_);refine ⟨_,rfl,?_⟩
    (refine Ap ?_);refine Wa ?_;apply Y0;apply AWp.region;refine Wm ?_;refine Wq Qz.tailN ?_;refine Wa ?_;apply AWl.nil;apply ABlock.normal;apply ABlock.normal
    refine ALoop.next _ ?_ ⟨s :: P',Q',R ++ [fT f t],?_,hP',hQ1,?_,rfl,rfl⟩ ?_
    ·simp only [List.length_cons];omega
    ·rw [mrgF_lt hc] at heq
     rw [← heq];simp
    ·simp only [List.length_cons,List.length_append,List.length_nil];omega
    ·exact AS.le_of (by refine Yd ?_;refine Yd ?_;refine Yd ?_;refine FrLe.cons rfl (AVle.own rfl) ?_;exact FrLe.nil) (by refine HpLe.cons (OwLe.row (map_snoc tmC R (fT f t))) ?_;exact HpLe.nil)
   ·have hc' : lex8 s.m t.m = 0 := by rw [← lx_lex]; exact hc
    simp only [hc']
    apply Y0;apply AWp.block;apply Y1;refine Wq Qz.cmpF ?_;refine Wa ?_;apply Y0;refine Cf ?_;apply Y1;refine Wq Qz.cmpF ?_;refine Wa ?_;apply Y0;refine Cf ?_;apply AWp.seq;apply AWp.seq
    refine AWp.dr' (DrawOk.self (by kernel_rfl)) [[],[(34,0)],[(35,1)],[(36,2)],[],[],[(39,5)],[(40,6)],[(41,7)],[(38,4),(42,8)],[(37,3),(43,9)],[]] [[],[0],[0,1],[0,1,2],[],[],[5],[5,6],[5,6,7],[4,5,6,7,8],[0,1,2,3,4,5,6,7,8,9],[]] rfl (by kernel_rfl) (by kernel_rfl) (by kernel_rfl) ?_
    refine Xq Qz.move ?_;refine Xq Qz.index0 ?_;refine Xq Qz.fldE ?_;refine Xq Qz.ldE ?_;refine Xq Qz.move ?_;refine Xq Qz.move ?_;refine Xq Qz.index0 ?_;refine Xq Qz.fldE ?_;refine Xq Qz.ldE ?_;refine Xq (Qz.call (hf t.c ht)) ?_;refine Xq (Qz.call (Add_abs s.c (f t.c) N M hs (hfs _ ht) hNM)) ?_;refine Xn ?_;refine ⟨_,rfl,?_⟩
    by_cases hz:s.c+f t.c = 0
    ·have hsg : (s.c + f t.c).num.sign = 0 := by rw [hz]; rfl
     refine Sf ?_;apply Y0;apply Y1;refine Wq Qz.ldD ?_;refine Wq (Qz.call (Sign_abs (s.c+f t.c))) ?_;refine Wq Qz.cmpF ?_;apply Y0;refine Cf ?_;apply Ys
     refine AWp.dr' (DrawOk.self (by kernel_rfl)) [[],[(57,0)],[],[(59,2)],[(58,1)]] [[],[0],[],[2],[0,1]] rfl (by kernel_rfl) (by kernel_rfl) (by kernel_rfl) ?_
     refine Xq Qz.move ?_;refine Xq Qz.tailN ?_;refine Xq Qz.move ?_;refine Xq Qz.tailN ?_;refine Xq Qz.assign ?_;refine ⟨_,rfl,?_⟩
     refine Wa ?_;apply AWl.nil;apply ABlock.normal;apply ABlock.normal
     refine ALoop.next _ ?_ ⟨P',Q',R,?_,hP1,hQ1,?_,rfl,rfl⟩ ?_
     ·simp only [List.length_cons];omega
     ·rw [mrgF_eq hc,if_pos hz] at heq
      exact heq
     ·omega
     ·exact AS.le_of (by refine Yd ?_;refine Yd ?_;refine Yd ?_;refine FrLe.cons rfl (AVle.own rfl) ?_;exact FrLe.nil) (by apply Yr;exact HpLe.nil)
    ·have hsg : (s.c + f t.c).num.sign ≠ 0 := by simpa using hz
     refine Sf ?_;apply Y0;apply Y1;refine Wq Qz.ldD ?_;refine Wq (Qz.call (Sign_abs (s.c+f t.c))) ?_;refine Wq Qz.cmpT ?_;apply Y0;refine Ct ?_
     refine AWp.dr' (DrawOk.self (by kernel_rfl)) [[],[],[],[(50,2)],[(51,3)],[(52,4)],[(49,1),(53,5)],[(54,6)]] [[],[],[],[2],[2,3],[2,3,4],[1,2,3,4,5],[1,2,3,4,5,6]] rfl (by kernel_rfl) (by kernel_rfl) (by kernel_rfl) ?_
     refine Xq Qz.move ?_;refine Xq Qz.ldD ?_;refine Xq Qz.move ?_;refine Xq Qz.index0 ?_;refine Xq Qz.fldE ?_;refine Xq Qz.loadEf ?_;(refine Hq rfl ?_;refine Bq.build (tab_of rfl) rfl rfl rfl ?_;(repeat ((first | refine ⟨_,PartOk.ag (ah rfl),?_⟩ | refine ⟨_,PartOk.one rfl (by first | exact One.ex_ rfl | exact One.sl | exact One.ep),?_⟩);refine ⟨_,rfl,?_⟩));refine ⟨_,rfl,?_⟩;refine ⟨_,rfl,?_⟩);(refine Xq (Bq.slice1 (ah rfl) (tab_of rfl) (tab_of rfl) rfl rfl rfl rfl rfl) ?_);refine ⟨_,rfl,?_⟩
     (refine Ap ?_);refine Wa ?_;apply Y0
     refine AWp.dr' (DrawOk.self (by kernel_rfl)) [[],[(57,0)],[],[(59,2)],[(58,1)]] [[],[0],[],[2],[0,1]] rfl (by kernel_rfl) (by kernel_rfl) (by kernel_rfl) ?_
     refine Xq Qz.move ?_;refine Xq Qz.tailN ?_;refine Xq Qz.move ?_;refine Xq Qz.tailN ?_;refine Xq Qz.assign ?_;refine ⟨_,rfl,?_⟩
     refine Wa ?_;apply AWl.nil;apply ABlock.normal;apply ABlock.normal
     refine ALoop.next _ ?_ ⟨P',Q',R ++ [⟨s.c+f t.c,s.m⟩],?_,hP1,hQ1,?_,rfl,rfl⟩ ?_
     ·simp only [List.length_cons];omega
     ·rw [mrgF_eq hc,if_neg hz] at heq
      rw [← heq];simp
     ·simp only [List.length_append,List.length_cons,List.length_nil];omega
     ·exact AS.le_of (by refine Yd ?_;refine Yd ?_;refine Yd ?_;refine FrLe.cons rfl (AVle.own rfl) ?_;exact FrLe.nil) (by refine HpLe.cons (OwLe.row (map_snoc tmC R ⟨s.c+f t.c,s.m⟩)) ?_;exact HpLe.nil)
   ·have hc' : lex8 s.m t.m = 1 := by rw [← lx_lex]; exact hc
    simp only [hc']
    apply Y0;apply AWp.block;apply Y1;refine Wq Qz.cmpT ?_;refine Wa ?_;apply Y0;refine Ct ?_;apply Y1;refine Wm ?_;refine Wm ?_;refine Wq Qz.index0 ?_;refine Wq Qz.loadEf ?_;refine Wq (Bq.slice1 (ao rfl) (tab_of rfl) (tab_of rfl) rfl rfl rfl rfl rfl) ?_;(refine Ap ?_);refine Wa ?_;apply Y0;apply AWp.region;refine Wm ?_;refine Wq Qz.tailN ?_;refine Wa ?_;apply AWl.nil;apply ABlock.normal;apply ABlock.normal
    refine ALoop.next _ ?_ ⟨P',t :: Q',R ++ [s],?_,hP1,hQ',?_,rfl,rfl⟩ ?_
    ·simp only [List.length_cons];omega
    ·rw [mrgF_gt hc] at heq
     rw [← heq];simp
    ·simp only [List.length_cons,List.length_append,List.length_nil];omega
    ·exact AS.le_of (by refine Yd ?_;refine Yd ?_;refine Yd ?_;refine FrLe.cons rfl (AVle.own rfl) ?_;exact FrLe.nil) (by refine HpLe.cons (OwLe.row (map_snoc tmC R s)) ?_;exact HpLe.nil)
  ·have hmn : mrgF f P' Q' = P' ++ Q'.map (fT f) := mrgF_nil (by first | exact .inl (List.eq_nil_of_length_eq_zero (by omega)) | exact .inr (List.eq_nil_of_length_eq_zero (by omega)))
   apply AWp.seq;apply Y1;refine Wm ?_;refine Wq Qz.lenN ?_;refine Wq Qz.cmpF ?_;refine Wm ?_;refine Ws ?_;refine Ws ?_;refine Ws ?_;refine Wq Qz.pickF ?_;apply Y0;refine Cf ?_;apply AWp.exit;apply AThen.exit;apply ALoop.exit;apply ABlock.hit;apply Yn;apply Y1;refine Wm ?_;refine Wm ?_;(refine Ap ?_);refine Wa ?_;apply Y0;apply AWp.seq;apply Y1;refine Wm ?_;refine Wq Qz.lenN ?_;refine Wm ?_;apply Y0;apply AWp.block
   refine AWp.loop (fun m σ=>∃ k,k≤Q'.length∧m = Q'.length - k∧σ = ⟨[(2,.d (ex (.func (.func fid) #[] #[]))),(7,.own 0),(92,.d (polD Q')),(93,.d (ex (.int .i64 (Q'.length:Nat)))),(94,.d (ex (.int .i64 (k:Nat))))],[.row 72 12 ((R ++ P' ++ (Q'.take k).map (fT f)).map tmC)]⟩) ?le ⟨0,by omega,rfl,rfl⟩ ?round
   case le=>exact AS.le_of (by repeat (first | exact FrLe.nil | refine Yd ?_ | refine FrLe.cons rfl (AVle.own rfl) ?_)) (HpLe.cons (OwLe.row (by simp)) HpLe.nil)
   case round =>
    rintro m _ ⟨k,hk,rfl,rfl⟩
    by_cases hlt:k<Q'.length
    ·have ht:=hQ' _ (tAt_mem hlt)
     have htk:=take_tAt hlt
     apply Y1;refine Wq Qz.cmpT ?_;apply Y0;apply AWp.seq;refine Ct ?_;apply Ys;apply AWp.seq;apply AWp.block;apply Y1;refine Wq Qz.indexN ?_;refine Wq Qz.loadEf ?_;refine Al ?_;refine Sf ?_;apply Y0
     refine AWp.dr' (DrawOk.self (by kernel_rfl)) [[],[],[],[(100,2)],[(99,1),(101,3)],[],[(103,5)],[(102,4),(104,6)],[(105,7)]] [[],[],[],[2],[1,2,3],[],[5],[1,2,3,4,5,6],[1,2,3,4,5,6,7]] rfl (by kernel_rfl) (by kernel_rfl) (by kernel_rfl) ?_
     refine Xq Qz.move ?_;refine Xq Qz.move ?_;refine Xq Qz.fldP ?_;refine Xq Qz.ldD ?_;refine Xq (Qz.call (hf (tAt Q' k).c ht)) ?_;refine Xq Qz.fldP ?_;refine Xq Qz.ldD ?_;(refine Hq rfl ?_;refine Bq.build (tab_of rfl) rfl rfl rfl ?_;(repeat ((first | refine ⟨_,PartOk.ag (ah rfl),?_⟩ | refine ⟨_,PartOk.one rfl (by first | exact One.ex_ rfl | exact One.sl | exact One.ep),?_⟩);refine ⟨_,rfl,?_⟩));refine ⟨_,rfl,?_⟩;refine ⟨_,rfl,?_⟩);(refine Xq (Bq.slice1 (ah rfl) (tab_of rfl) (tab_of rfl) rfl rfl rfl rfl rfl) ?_);refine ⟨_,rfl,?_⟩
     (refine Ap ?_);refine Wa ?_;apply AWl.nil;apply ABlock.normal;apply Yn;apply AWp.region;refine Wq Qz.succ ?_;refine Wm ?_;apply AWl.nil
     refine ALoop.next (Q'.length - (k+1)) (by omega) ⟨k+1,by omega,rfl,rfl⟩ ?_
     exact AS.le_of (by refine Yd ?_;refine FrLe.cons rfl (AVle.own rfl) ?_;refine Yd ?_;refine Yd ?_;refine Yd ?_;exact FrLe.nil) (by (refine HpLe.cons (OwLe.row ((map_snoc tmC _ (fT f (tAt Q' k))).trans (by rw [← htk];simp))) ?_);exact HpLe.nil)
    ·obtain rfl : k = Q'.length := by omega
     apply Y1;refine Wq Qz.cmpF ?_;apply Y0;apply AWp.seq;refine Cf ?_;apply AWp.exit;apply AThen.exit;apply ALoop.exit;apply ABlock.hit;apply Yn;apply Y1;refine Wm ?_;refine Wa ?_;apply Y0;apply AWp.ret
     refine Fin.ret (Rets.one rfl rfl (D.le.of_eq ?_))
     rw [List.take_length,List.append_assoc,← hmn,heq]
     rfl
  ·have hmn : mrgF f P' Q' = P' ++ Q'.map (fT f) := mrgF_nil (by first | exact .inl (List.eq_nil_of_length_eq_zero (by omega)) | exact .inr (List.eq_nil_of_length_eq_zero (by omega)))
   apply AWp.seq;apply Y1;refine Wm ?_;refine Wq Qz.lenN ?_;refine Wq Qz.cmpT ?_;refine Wm ?_;refine Wg Qz.move ?_;refine Wg Qz.lenN ?_;refine Wg Qz.cmpF ?_;refine Wq Qz.pickT ?_;apply Y0;refine Cf ?_;apply AWp.exit;apply AThen.exit;apply ALoop.exit;apply ABlock.hit;apply Yn;apply Y1;refine Wm ?_;refine Wm ?_;(refine Ap ?_);refine Wa ?_;apply Y0;apply AWp.seq;apply Y1;refine Wm ?_;refine Wq Qz.lenN ?_;refine Wm ?_;apply Y0;apply AWp.block
   refine AWp.loop (fun m σ=>∃ k,k≤Q'.length∧m = Q'.length - k∧σ = ⟨[(2,.d (ex (.func (.func fid) #[] #[]))),(7,.own 0),(92,.d (polD Q')),(93,.d (ex (.int .i64 (Q'.length:Nat)))),(94,.d (ex (.int .i64 (k:Nat))))],[.row 72 12 ((R ++ P' ++ (Q'.take k).map (fT f)).map tmC)]⟩) ?le ⟨0,by omega,rfl,rfl⟩ ?round
   case le=>exact AS.le_of (by repeat (first | exact FrLe.nil | refine Yd ?_ | refine FrLe.cons rfl (AVle.own rfl) ?_)) (HpLe.cons (OwLe.row (by simp)) HpLe.nil)
   case round =>
    rintro m _ ⟨k,hk,rfl,rfl⟩
    by_cases hlt:k<Q'.length
    ·have ht:=hQ' _ (tAt_mem hlt)
     have htk:=take_tAt hlt
     apply Y1;refine Wq Qz.cmpT ?_;apply Y0;apply AWp.seq;refine Ct ?_;apply Ys;apply AWp.seq;apply AWp.block;apply Y1;refine Wq Qz.indexN ?_;refine Wq Qz.loadEf ?_;refine Al ?_;refine Sf ?_;apply Y0
     refine AWp.dr' (DrawOk.self (by kernel_rfl)) [[],[],[],[(100,2)],[(99,1),(101,3)],[],[(103,5)],[(102,4),(104,6)],[(105,7)]] [[],[],[],[2],[1,2,3],[],[5],[1,2,3,4,5,6],[1,2,3,4,5,6,7]] rfl (by kernel_rfl) (by kernel_rfl) (by kernel_rfl) ?_
     refine Xq Qz.move ?_;refine Xq Qz.move ?_;refine Xq Qz.fldP ?_;refine Xq Qz.ldD ?_;refine Xq (Qz.call (hf (tAt Q' k).c ht)) ?_;refine Xq Qz.fldP ?_;refine Xq Qz.ldD ?_;(refine Hq rfl ?_;refine Bq.build (tab_of rfl) rfl rfl rfl ?_;(repeat ((first | refine ⟨_,PartOk.ag (ah rfl),?_⟩ | refine ⟨_,PartOk.one rfl (by first | exact One.ex_ rfl | exact One.sl | exact One.ep),?_⟩);refine ⟨_,rfl,?_⟩));refine ⟨_,rfl,?_⟩;refine ⟨_,rfl,?_⟩);(refine Xq (Bq.slice1 (ah rfl) (tab_of rfl) (tab_of rfl) rfl rfl rfl rfl rfl) ?_);refine ⟨_,rfl,?_⟩
     (refine Ap ?_);refine Wa ?_;apply AWl.nil;apply ABlock.normal;apply Yn;apply AWp.region;refine Wq Qz.succ ?_;refine Wm ?_;apply AWl.nil
     refine ALoop.next (Q'.length - (k+1)) (by omega) ⟨k+1,by omega,rfl,rfl⟩ ?_
     exact AS.le_of (by refine Yd ?_;refine FrLe.cons rfl (AVle.own rfl) ?_;refine Yd ?_;refine Yd ?_;refine Yd ?_;exact FrLe.nil) (by (refine HpLe.cons (OwLe.row ((map_snoc tmC _ (fT f (tAt Q' k))).trans (by rw [← htk];simp))) ?_);exact HpLe.nil)
    ·obtain rfl : k = Q'.length := by omega
     apply Y1;refine Wq Qz.cmpF ?_;apply Y0;apply AWp.seq;refine Cf ?_;apply AWp.exit;apply AThen.exit;apply ALoop.exit;apply ABlock.hit;apply Yn;apply Y1;refine Wm ?_;refine Wa ?_;apply Y0;apply AWp.ret
     refine Fin.ret (Rets.one rfl rfl (D.le.of_eq ?_))
     rw [List.take_length,List.append_assoc,← hmn,heq]
     rfl
theorem Add1_abs (q : Rat):Abs Tryz.prog 90 [agD (ratC q)] (agD (ratC q)):=by
 refine Ab Tryz.func90 fun s0=>?_
 rw [Tryz.ntmps90]
 apply Y1;refine Bx ?_;refine Al ?_;apply Y0;apply Y1;refine Wq Qz.ldD ?_;refine Sf ?_;apply Y0;apply AWp.ret
 exact Fin.ret (Rets.of1 (ResV.cell rfl rfl (tab_of rfl) rfl rfl rfl) (D.le.refl _))
theorem PAdd_abs (P Q:List Tm) (N M:Nat) (hP:PSz P N) (hQ:PSz Q M) (hNM:N+M+1≤4398046511104) (hn:P.length+Q.length≤100000):Abs Tryz.prog 47 [polD P,polD Q] (polD (mrg P Q)):=by
 have he:mrgF (fun q=>q) P Q = mrg P Q:=by
  unfold mrgF
  have:Q.map (fT fun q=>q) = Q:=List.map_id Q
  rw [this]
 refine Ab Tryz.func47 fun s0=>?_
 rw [Tryz.ntmps47]
 apply Y1;refine Wa ?_;apply Y0;apply Y1;refine Wm ?_;refine Wm ?_;refine Wq (Qz.call (merge_abs P Q 90 (fun q=>q) N M hP hQ hNM (fun _ h=>h) hn (fun q _=>Add1_abs q))) ?_;refine Wa ?_;apply Y0;apply AWp.ret
 exact Fin.ret (Rets.of1 (ResV.tmp rfl rfl) (D.le_pol he))
def constL (c : Rat):List Tm:=if c = 0 then [] else [⟨c,fun _=>0⟩]
def unitE (i : Nat):Nat→Int:=setM (fun _=>0) i 1
theorem PTimes0_abs (c : Rat) (m:Nat→Int) (P:List Tm) (hc:c = 0):Abs Tryz.prog 46 [agD (ratC c),agD (monC m),polD P] (tupD [polD [],ex (.int .i64 0)]):=by
 have hs:=num_sign0.2 hc
 refine Ab Tryz.func46 fun s0=>?_
 rw [Tryz.ntmps46]
 apply Y1;refine Bx ?_;refine Bx ?_;refine Wa ?_;refine Wa ?_;apply Y0;apply AWp.seq;apply Y1;refine Wq Qz.ldD ?_;refine Wq (Qz.call (Sign_abs c)) ?_;refine Wq Qz.cmpT ?_;apply Y0;refine Ct ?_;apply Y1;refine Wa ?_;refine Wa ?_;apply Y0;apply AWp.ret;apply AThen.ret
 exact Fin.ret (Rets.of2 (ResV.tmp rfl rfl) (ResV.tmp rfl rfl) (D.le.tup2 (D.le_nilP) (D.le.refl _)))
theorem PTimes_abs (c : Rat) (m:Nat→Int) (P:List Tm) (N M:Nat) (hc:c ≠ 0) (hcs:RSz c N) (hm:In8 m 0 65535) (hP:PSz P M) (hPi:PIn P 0 65535) (hmP:∀ t∈P,In8 (add8 m t.m) 0 65535) (hn:P.length≤100000) (hNM:N+M≤4398046511104):Abs Tryz.prog 46 [agD (ratC c),agD (monC m),polD P] (tupD [polD (tms c m P),ex (.int .i64 0)]):=by
 have hs:c.num.sign ≠ 0:=fun e=>hc (num_sign0.1 e)
 refine Ab Tryz.func46 fun s0=>?_
 rw [Tryz.ntmps46]
 apply Y1;refine Bx ?_;refine Bx ?_;refine Wa ?_;refine Wa ?_;apply Y0;apply AWp.seq;apply Y1;refine Wq Qz.ldD ?_;refine Wq (Qz.call (Sign_abs c)) ?_;refine Wq Qz.cmpF ?_;apply Y0;refine Cf ?_;apply Ys;apply Y1;refine Wm ?_;refine Wq Qz.lenN ?_;refine AWs.mk0 (ao rfl) (ao rfl) (tab_of rfl) (tab_of rfl) (by omega) (by omega) rfl rfl rfl rfl rfl rfl ?_;refine Wa ?_;apply Y0;apply AWp.seq;apply Y1;refine Wm ?_;refine Wq Qz.lenN ?_;refine Wm ?_;apply Y0;apply AWp.block
 refine AWp.loop (fun mz σ=>∃ k,k≤P.length∧mz = P.length - k∧σ = ⟨[(3,.ptr 0 0),(4,.ptr 1 0),(7,.d (ex (.int .i64 0))),(8,.own 2),(19,.d (polD P)),(20,.d (ex (.int .i64 (P.length:Nat)))),(21,.d (ex (.int .i64 (k:Nat))))],[.var 54 ((ratC c).map .d),.var 70 ((monC m).map .d),.row 72 12 ((tms c m (P.take k)).map tmC)]⟩) ?le ⟨0,by omega,rfl,rfl⟩ ?round
 case le=>exact AS.le_of (by refine Yp ?_;refine Yp ?_;refine Yd ?_;refine FrLe.cons rfl (AVle.own rfl) ?_;refine Yd ?_;refine Yd ?_;refine Yd ?_;exact FrLe.nil) (by apply Yv;apply Yv;apply Yr;exact HpLe.nil)
 case round =>
  rintro mz _ ⟨k,hk,rfl,rfl⟩
  by_cases hlt:k<P.length
  ·have ht:=tAt_mem hlt
   have htk:=take_tAt hlt
   apply Y1;refine Wq Qz.cmpT ?_;apply Y0;apply AWp.seq;refine Ct ?_;apply Ys;apply AWp.seq;apply AWp.block;apply Y1;refine Wq Qz.indexN ?_;refine Wq Qz.loadEf ?_;refine Al ?_;refine Sf ?_;apply Y0;apply Y1;refine Wq Qz.ldD ?_;refine Wq Qz.fldP ?_;refine Wq Qz.ldD ?_;refine Wq (Qz.call (mMul_abs m (tAt P k).m hm (hPi _ ht) (hmP _ ht))) ?_;refine Wm ?_;refine Wq Qz.ext ?_;refine Wq Qz.ext ?_;refine Al ?_;refine Sf ?_;refine Wa ?_;apply Y0;apply AWp.seq;apply Y1;refine Wm ?_;refine Wq Qz.cmpF ?_;apply Y0;refine Cf ?_;apply Ys
   refine AWp.dr' (DrawOk.self (by kernel_rfl)) [[],[],[],[(37,2)],[(36,1),(38,3)],[],[(39,4),(40,5)],[(41,6)]] [[],[],[],[2],[1,2,3],[],[1,2,3,4,5],[1,2,3,4,5,6]] rfl (by kernel_rfl) (by kernel_rfl) (by kernel_rfl) ?_
   refine Xq Qz.move ?_;refine Xq Qz.ldD ?_;refine Xq Qz.fldP ?_;refine Xq Qz.ldD ?_;refine Xq (Qz.call (Mul_abs c (tAt P k).c N M hcs (hP _ ht) hNM)) ?_;refine Xq Qz.ldD ?_;(refine Hq rfl ?_;refine Bq.build (tab_of rfl) rfl rfl rfl ?_;(repeat ((first | refine ⟨_,PartOk.ag (ah rfl),?_⟩ | refine ⟨_,PartOk.one rfl (by first | exact One.ex_ rfl | exact One.sl | exact One.ep),?_⟩);refine ⟨_,rfl,?_⟩));refine ⟨_,rfl,?_⟩;refine ⟨_,rfl,?_⟩);(refine Xq (Bq.slice1 (ah rfl) (tab_of rfl) (tab_of rfl) rfl rfl rfl rfl rfl) ?_);refine ⟨_,rfl,?_⟩
   (refine Ap ?_);refine Wa ?_;apply AWl.nil;apply ABlock.normal;apply Yn;apply AWp.region;refine Wq Qz.succ ?_;refine Wm ?_;apply AWl.nil
   refine ALoop.next (P.length - (k+1)) (by omega) ⟨k+1,by omega,rfl,rfl⟩ ?_
   exact AS.le_of (by refine Yp ?_;refine Yp ?_;refine Yd ?_;refine FrLe.cons rfl (AVle.own rfl) ?_;refine Yd ?_;refine Yd ?_;refine Yd ?_;exact FrLe.nil) (by apply Yv;apply Yv;(refine HpLe.cons (OwLe.row ((map_snoc tmC _ ⟨c*(tAt P k).c,add8 m (tAt P k).m⟩).trans (by rw [← htk];simp [tms]))) ?_);exact HpLe.nil)
  ·obtain rfl : k = P.length := by omega
   apply Y1;refine Wq Qz.cmpF ?_;apply Y0;apply AWp.seq;refine Cf ?_;apply AWp.exit;apply AThen.exit;apply ALoop.exit;apply ABlock.hit;apply Yn;apply Y1;refine Wm ?_;refine Wa ?_;refine Wa ?_;apply Y0;apply AWp.ret
   exact Fin.ret (Rets.of2 (ResV.tmp rfl rfl) (ResV.tmp rfl rfl) (D.le.tup2 (D.le.of_eq (by rw [List.take_length];rfl)) (D.le.refl _)))
def intOk (b : Bool) (l:List Nat):Bool:=if l.length = 0 then !b else (((l.getD (l.length - 1) 0:Nat):Int) != 0)
theorem iValid_abs (b : Bool) (l:List Nat) (hn:l.length≤1000000000):Abs Tryz.prog 119 [agD [ex (.bool b),wD l]] (ex (.bool (intOk b l))):=by
 refine Ab Tryz.func119 fun s0=>?_
 rw [Tryz.ntmps119]
 apply Y1;refine Bx ?_;refine Wa ?_;apply Y0;apply Y1;refine Wq Qz.fldP ?_;refine Wq Qz.ldD1 ?_;refine Wq Qz.lenW ?_;refine Wa ?_;apply Y0;apply AWp.seq;apply Y1;refine Wm ?_;refine Wq Qz.cmp ?_;apply Y0
 by_cases h0:l.length = 0
 ·refine AWp.condEqT (ao rfl) (decide_eq_true (by omega)) ?_; apply AWp.seq; apply AWp.region; refine Wq Qz.fldP ?_; refine Wq Qz.ldD1 ?_; refine Wq Qz.not ?_; refine Wa ?_; apply AWl.nil; apply Yn; apply AWp.ret; apply AThen.ret
  exact Fin.ret (Rets.of1 (ResV.tmp rfl rfl) (D.le.of_eq (by rw [intOk,if_pos h0])))
 ·refine AWp.condEqF (ao rfl) (decide_eq_false (by omega)) ?_; apply AWp.skip; apply Yn; apply AWp.seq; apply AWp.region; refine Wq Qz.fldP ?_; refine Wq Qz.ldD1 ?_; refine Wm ?_; refine Wq Qz.pred ?_; refine Wq Qz.indexW ?_; refine Wq Qz.ldE1 ?_; refine Wq Qz.cmp ?_; refine Wa ?_; apply AWl.nil; apply Yn; apply AWp.ret
  exact Fin.ret (Rets.of1 (ResV.tmp rfl rfl) (D.le.of_eq (by rw [intOk,if_neg h0])))
theorem RiValid_abs (b : Bool) (l:List Nat) (hn:l.length≤1000000000):Abs Tryz.prog 64 [agD [ex (.bool b),wD l]] (ex (.bool (intOk b l))):=by
 refine Ab Tryz.func64 fun s0=>?_
 rw [Tryz.ntmps64]
 apply Y1;refine Bx ?_;refine Wa ?_;apply Y0;apply Y1;refine Wq Qz.fldP ?_;refine Wq Qz.ldD1 ?_;refine Wq Qz.lenW ?_;refine Wa ?_;apply Y0;apply AWp.seq;apply Y1;refine Wm ?_;refine Wq Qz.cmp ?_;apply Y0
 by_cases h0:l.length = 0
 ·refine AWp.condEqT (ao rfl) (decide_eq_true (by omega)) ?_; apply AWp.seq; apply AWp.region; refine Wq Qz.fldP ?_; refine Wq Qz.ldD1 ?_; refine Wq Qz.not ?_; refine Wa ?_; apply AWl.nil; apply Yn; apply AWp.ret; apply AThen.ret
  exact Fin.ret (Rets.of1 (ResV.tmp rfl rfl) (D.le.of_eq (by rw [intOk,if_pos h0])))
 ·refine AWp.condEqF (ao rfl) (decide_eq_false (by omega)) ?_; apply AWp.skip; apply Yn; apply AWp.seq; apply AWp.region; refine Wq Qz.fldP ?_; refine Wq Qz.ldD1 ?_; refine Wm ?_; refine Wq Qz.pred ?_; refine Wq Qz.indexW ?_; refine Wq Qz.ldE1 ?_; refine Wq Qz.cmp ?_; refine Wa ?_; apply AWl.nil; apply Yn; apply AWp.ret
  exact Fin.ret (Rets.of1 (ResV.tmp rfl rfl) (D.le.of_eq (by rw [intOk,if_neg h0])))
theorem trimW_last : ∀ {l:List Nat},l ≠ []→l.getD (l.length - 1) 0 ≠ 0→trimW l = l
 | [],h,_=>absurd rfl h
 | [x],_,h=>by
  have h:x ≠ 0:=h
  simp [trimW,h]
 | x :: y :: l,_,h=>by
  have h':(y :: l).getD ((y :: l).length - 1) 0 ≠ 0:=by
   have e:(x :: y :: l).getD ((x :: y :: l).length - 1) 0 = (y :: l).getD ((y :: l).length - 1) 0:=by simp
   rwa [e] at h
  have ih:=trimW_last (l:=y :: l) (by simp) h'
  rw [trimW,ih]
theorem intOk_int {b : Bool} {l:List Nat} (hs:Small l) (h:intOk b l = true):∃ z:Int,b = decide (z<0)∧l = digs z.natAbs:=by
 unfold intOk at h
 split at h
 ·rename_i h0
  obtain rfl:=List.eq_nil_of_length_eq_zero h0
  exact ⟨0,by simpa using h,by simp [digs_zero]⟩
 ·rename_i h0
  have h1:l ≠ []:=fun e=>h0 (by rw [e];rfl)
  have h2:l.getD (l.length - 1) 0 ≠ 0:=fun e=>by rw [e] at h;simp at h
  have h3:l = digs (val l):=by rw [← trimW_eq_digs hs,trimW_last h1 h2]
  have h4:val l ≠ 0:=fun e=>by rw [e,digs_zero] at h3;exact h1 h3
  cases b with
  | true=>exact ⟨-(val l:Int),by simp;omega,by simpa using h3⟩
  | false=>exact ⟨(val l:Int),by simp,by simpa using h3⟩
theorem int_intOk (z : Int):intOk (decide (z<0)) (digs z.natAbs) = true:=by
 unfold intOk
 split
 ·rename_i h
  have:=digs_length_zero.1 h
  have:z = 0:=by omega
  subst this
  rfl
 ·rename_i h
  have hd:(digs z.natAbs).getD ((digs z.natAbs).length - 1) 0 ≠ 0:=by
   have key:∀ n,n ≠ 0→(digs n).getD ((digs n).length - 1) 0 ≠ 0:=by
    intro n
    induction n using Nat.strongRecOn with
    | _ n ih =>
     intro hn
     rw [digs_pos hn]
     by_cases h0:n / BB = 0
     ·rw [h0,digs_zero]
      have:n % BB = n:=Nat.mod_eq_of_lt (by have:=Nat.div_eq_zero_iff.1 h0;rcases this with h | h;exact absurd h (by decide);exact h)
      simpa [this] using hn
     ·have := ih (n / BB) (Nat.div_lt_self (Nat.pos_of_ne_zero hn) (by decide)) h0
      have hne:(digs (n / BB)).length ≠ 0:=fun e=>h0 (digs_length_zero.1 e)
      obtain ⟨m,hm⟩:∃ m,(digs (n / BB)).length = m+1:=⟨(digs (n / BB)).length - 1,by omega⟩
      rw [hm] at this
      simp only [List.length_cons,hm,Nat.add_sub_cancel,List.getD_cons_succ] at this ⊢
      exact this
   exact key _ fun e=>h (digs_length_zero.2 e)
  simp only [bne_iff_ne,ne_eq]
  omega
def QOk (b : Bool) (l:List Nat) (b':Bool) (l':List Nat):Prop:=∃ q:Rat,b = decide (q.num<0)∧l = digs q.num.natAbs∧b' = decide ((q.den:Int)<0)∧l' = digs (q.den:Int).natAbs
theorem int_inj {x y:Int} (h:decide (x<0) = decide (y<0)) (h':digs x.natAbs = digs y.natAbs):x = y:=by
 have h1:x.natAbs = y.natAbs:=by rw [← val_digs x.natAbs,h',val_digs]
 have h2:(x<0)↔(y<0):=by simpa using h
 omega
theorem QOk_int (x y:Int):QOk (decide (x<0)) (digs x.natAbs) (decide (y<0)) (digs y.natAbs)↔0<y∧Nat.gcd x.natAbs y.natAbs = 1:=by
 constructor
 ·rintro ⟨q,h1,h2,h3,h4⟩
  have e1:=int_inj h1 h2
  have e2:=int_inj h3 h4
  subst e1;subst e2
  exact ⟨by have:=q.den_pos;omega,q.reduced⟩
 ·rintro ⟨h1,h2⟩
  refine ⟨⟨x,y.natAbs,by omega,h2⟩,rfl,rfl,?_,?_⟩
  ·show decide (y<0) = decide (((y.natAbs:Nat):Int)<0)
   rw [decide_eq_false (show ¬ y<0 by omega),decide_eq_false (by omega)]
  ·show digs y.natAbs = digs ((y.natAbs:Nat):Int).natAbs
   rfl
theorem QOk_ok {b : Bool} {l:List Nat} {b':Bool} {l':List Nat} (h:QOk b l b' l'):intOk b l = true∧intOk b' l' = true:=by
 obtain ⟨q,rfl,rfl,rfl,rfl⟩:=h
 exact ⟨int_intOk _,int_intOk _⟩
def rawC (b : Bool) (l:List Nat) (b':Bool) (l':List Nat):List D:=[ex (.bool b),wD l,ex (.bool b'),wD l']
open Classical in
theorem rValid_abs (b : Bool) (l:List Nat) (b':Bool) (l':List Nat) (hs:Small l) (hs':Small l') (hn:l.length≤1000000000) (hn':l'.length≤1000000000):Abs Tryz.prog 92 [agD (rawC b l b' l')] (ex (.bool (decide (QOk b l b' l')))):=by
 have c1:=iValid_abs b l hn
 have c2:=iValid_abs b' l' hn'
 cases h1:intOk b l with
 | false =>
  have hq:¬ QOk b l b' l':=fun h=>by rw [(QOk_ok h).1] at h1;cases h1
  rw [h1] at c1
  rw [decide_eq_false hq]
  refine Ab Tryz.func92 fun s0=>?_
  rw [Tryz.ntmps92]
  apply Y1;refine Bx ?_;refine Wa ?_;apply Y0;apply AWp.seq;apply Y1;refine Wq Qz.fldP ?_;refine Wq Qz.ldD ?_;refine Wq (Qz.call (c1)) ?_;refine Wq Qz.not ?_;refine Wm ?_;refine Ws ?_;refine Ws ?_;refine Ws ?_;refine Ws ?_;refine Wq Qz.pickT ?_;refine Wm ?_;refine Ws ?_;refine Ws ?_;refine Ws ?_;refine Ws ?_;refine Wq Qz.pickT ?_;apply Y0;refine Ct ?_;apply Y1;refine Wa ?_;apply Y0;apply AWp.ret;apply AThen.ret
  exact Yf
 | true =>
  rw [h1] at c1
  cases h2:intOk b' l' with
  | false =>
   have hq:¬ QOk b l b' l':=fun h=>by rw [(QOk_ok h).2] at h2;cases h2
   rw [h2] at c2
   rw [decide_eq_false hq]
   refine Ab Tryz.func92 fun s0=>?_
   rw [Tryz.ntmps92]
   apply Y1;refine Bx ?_;refine Wa ?_;apply Y0;apply AWp.seq;apply Y1;refine Wq Qz.fldP ?_;refine Wq Qz.ldD ?_;refine Wq (Qz.call (c1)) ?_;refine Wq Qz.not ?_;refine Wm ?_;refine Wg Qz.fldP ?_;refine Wg Qz.ldD ?_;refine Wg (Qz.call (c2)) ?_;refine Wg Qz.not ?_;refine Wq Qz.pickF ?_;refine Wm ?_;refine Ws ?_;refine Ws ?_;refine Ws ?_;refine Ws ?_;refine Wq Qz.pickT ?_;apply Y0;refine Ct ?_;apply Y1;refine Wa ?_;apply Y0;apply AWp.ret;apply AThen.ret
   exact Yf
  | true =>
   rw [h2] at c2
   obtain ⟨x,rfl,rfl⟩:=intOk_int hs h1
   obtain ⟨y,rfl,rfl⟩:=intOk_int hs' h2
   by_cases hy:0<y
   ·have hsg:y.sign = 1:=Int.sign_eq_one_of_pos hy
    have c3:=isOne_abs y
    by_cases hy1:y = 1
    ·rw [decide_eq_true hy1] at c3
     rw [decide_eq_true ((QOk_int x y).2 ⟨hy,by subst hy1;exact Nat.gcd_one_right _⟩)]
     refine Ab Tryz.func92 fun s0=>?_
     rw [Tryz.ntmps92]
     apply Y1;refine Bx ?_;refine Wa ?_;apply Y0;apply AWp.seq;apply Y1;refine Wq Qz.fldP ?_;refine Wq Qz.ldD ?_;refine Wq (Qz.call (c1)) ?_;refine Wq Qz.not ?_;refine Wm ?_;refine Wg Qz.fldP ?_;refine Wg Qz.ldD ?_;refine Wg (Qz.call (c2)) ?_;refine Wg Qz.not ?_;refine Wq Qz.pickF ?_;refine Wm ?_;refine Wg Qz.fldP ?_;refine Wg Qz.ldD ?_;refine Wg (Qz.call (sgn_abs y)) ?_;refine Wg Qz.cmpF ?_;refine Wq Qz.pickF ?_;apply Y0;refine Cf ?_;apply Ys;apply Y1;refine Wq Qz.fldP ?_;refine Wq Qz.ldD ?_;refine Wq (Qz.call (c3)) ?_;refine Wm ?_;refine Ws ?_;refine Ws ?_;refine Ws ?_;refine Ws ?_;refine Ws ?_;refine Ws ?_;refine Wq Qz.pickT ?_;refine Wa ?_;apply Y0;apply AWp.ret
     exact Yf
    ·rw [decide_eq_false hy1] at c3
     have hg:decide (QOk (decide (x<0)) (digs x.natAbs) (decide (y<0)) (digs y.natAbs)) = decide (((Nat.gcd x.natAbs y.natAbs:Nat):Int) = 1):=by
      refine decide_eq_decide.2 ((QOk_int x y).trans ⟨fun h=>by omega,fun h=>⟨hy,by omega⟩⟩)
     rw [hg]
     refine Ab Tryz.func92 fun s0=>?_
     rw [Tryz.ntmps92]
     apply Y1;refine Bx ?_;refine Wa ?_;apply Y0;apply AWp.seq;apply Y1;refine Wq Qz.fldP ?_;refine Wq Qz.ldD ?_;refine Wq (Qz.call (c1)) ?_;refine Wq Qz.not ?_;refine Wm ?_;refine Wg Qz.fldP ?_;refine Wg Qz.ldD ?_;refine Wg (Qz.call (c2)) ?_;refine Wg Qz.not ?_;refine Wq Qz.pickF ?_;refine Wm ?_;refine Wg Qz.fldP ?_;refine Wg Qz.ldD ?_;refine Wg (Qz.call (sgn_abs y)) ?_;refine Wg Qz.cmpF ?_;refine Wq Qz.pickF ?_;apply Y0;refine Cf ?_;apply Ys;apply Y1;refine Wq Qz.fldP ?_;refine Wq Qz.ldD ?_;refine Wq (Qz.call (c3)) ?_;refine Wm ?_;refine Wg Qz.fldP ?_;refine Wg Qz.ldD ?_;refine Wg Qz.fldP ?_;refine Wg Qz.ldD ?_;refine Wg (Qz.call (gcd_abs x y (by omega) (by omega))) ?_;refine Wg (Qz.call (isOne_abs (Nat.gcd x.natAbs y.natAbs:Nat))) ?_;refine Wq Qz.pickF ?_;refine Wa ?_;apply Y0;apply AWp.ret
     exact Yf
   ·have hsg : y.sign ≤ 0 := Int.sign_nonpos_iff.2 (by omega)
    rw [decide_eq_false fun h=>hy ((QOk_int x y).1 h).1]
    refine Ab Tryz.func92 fun s0=>?_
    rw [Tryz.ntmps92]
    apply Y1;refine Bx ?_;refine Wa ?_;apply Y0;apply AWp.seq;apply Y1;refine Wq Qz.fldP ?_;refine Wq Qz.ldD ?_;refine Wq (Qz.call (c1)) ?_;refine Wq Qz.not ?_;refine Wm ?_;refine Wg Qz.fldP ?_;refine Wg Qz.ldD ?_;refine Wg (Qz.call (c2)) ?_;refine Wg Qz.not ?_;refine Wq Qz.pickF ?_;refine Wm ?_;refine Wg Qz.fldP ?_;refine Wg Qz.ldD ?_;refine Wg (Qz.call (sgn_abs y)) ?_;refine Wg Qz.cmpT ?_;refine Wq Qz.pickF ?_;apply Y0;refine Ct ?_;apply Y1;refine Wa ?_;apply Y0;apply AWp.ret;apply AThen.ret
    exact Yf
def cmpS (b : Bool) (m:Nat) (b':Bool) (m':Nat):Int:=match b,b' with
 | true,true=>cmpN m' m
 | true,false=>-1
 | false,true=>1
 | false,false=>cmpN m m'
theorem RiCmp_raw (b b':Bool) (m m':Nat):Abs Tryz.prog 66 [agD [ex (.bool b),wD (digs m)],agD [ex (.bool b'),wD (digs m')]] (ex (.int .i64 (cmpS b m b' m'))):=by
 cases b <;> cases b'
 ·refine Ab Tryz.func66 fun s0 => ?_
  rw [Tryz.ntmps66]
  apply Y1;refine Bx ?_;refine Bx ?_;refine Wa ?_;apply Y0;apply AWp.seq;apply Y1;refine Wq Qz.fldP ?_;refine Wq Qz.ldD1 ?_;refine Wm ?_;refine Ws ?_;refine Ws ?_;refine Ws ?_;refine Wq Qz.pickF ?_;apply Y0;refine Cf ?_;apply Ys;apply AWp.seq;apply Y1;refine Wq Qz.fldP ?_;refine Wq Qz.ldD1 ?_;refine Wq Qz.not ?_;refine Wm ?_;refine Wg Qz.fldP ?_;refine Wg Qz.ldD1 ?_;refine Wq Qz.pickT ?_;apply Y0;refine Cf ?_;apply Ys;apply AWp.seq;apply Y1;refine Wq Qz.fldP ?_;refine Wq Qz.ldD1 ?_;apply Y0;refine Cf ?_;apply Ys;apply Y1;refine Wq Qz.fldP ?_;refine Wq Qz.ldD1 ?_;refine Wq Qz.fldP ?_;refine Wq Qz.ldD1 ?_;refine Wq (Qz.call (Rcompared_abs m m')) ?_;refine Wa ?_;apply Y0;apply AWp.ret
  exact Yf
 ·refine Ab Tryz.func66 fun s0 => ?_
  rw [Tryz.ntmps66]
  apply Y1;refine Bx ?_;refine Bx ?_;refine Wa ?_;apply Y0;apply AWp.seq;apply Y1;refine Wq Qz.fldP ?_;refine Wq Qz.ldD1 ?_;refine Wm ?_;refine Ws ?_;refine Ws ?_;refine Ws ?_;refine Wq Qz.pickF ?_;apply Y0;refine Cf ?_;apply Ys;apply AWp.seq;apply Y1;refine Wq Qz.fldP ?_;refine Wq Qz.ldD1 ?_;refine Wq Qz.not ?_;refine Wm ?_;refine Wg Qz.fldP ?_;refine Wg Qz.ldD1 ?_;refine Wq Qz.pickT ?_;apply Y0;refine Ct ?_;apply Y1;refine Wa ?_;apply Y0;apply AWp.ret;apply AThen.ret
  exact Yf
 ·refine Ab Tryz.func66 fun s0 => ?_
  rw [Tryz.ntmps66]
  apply Y1;refine Bx ?_;refine Bx ?_;refine Wa ?_;apply Y0;apply AWp.seq;apply Y1;refine Wq Qz.fldP ?_;refine Wq Qz.ldD1 ?_;refine Wm ?_;refine Wg Qz.fldP ?_;refine Wg Qz.ldD1 ?_;refine Wg Qz.not ?_;refine Wq Qz.pickT ?_;apply Y0;refine Ct ?_;apply Y1;refine Wa ?_;apply Y0;apply AWp.ret;apply AThen.ret
  exact Yf
 ·refine Ab Tryz.func66 fun s0 => ?_
  rw [Tryz.ntmps66]
  apply Y1;refine Bx ?_;refine Bx ?_;refine Wa ?_;apply Y0;apply AWp.seq;apply Y1;refine Wq Qz.fldP ?_;refine Wq Qz.ldD1 ?_;refine Wm ?_;refine Wg Qz.fldP ?_;refine Wg Qz.ldD1 ?_;refine Wg Qz.not ?_;refine Wq Qz.pickT ?_;apply Y0;refine Cf ?_;apply Ys;apply AWp.seq;apply Y1;refine Wq Qz.fldP ?_;refine Wq Qz.ldD1 ?_;refine Wq Qz.not ?_;refine Wm ?_;refine Ws ?_;refine Ws ?_;refine Wq Qz.pickF ?_;apply Y0;refine Cf ?_;apply Ys;apply AWp.seq;apply Y1;refine Wq Qz.fldP ?_;refine Wq Qz.ldD1 ?_;apply Y0;refine Ct ?_;apply Y1;refine Wq Qz.fldP ?_;refine Wq Qz.ldD1 ?_;refine Wq Qz.fldP ?_;refine Wq Qz.ldD1 ?_;refine Wq (Qz.call (Rcompared_abs m' m)) ?_;refine Wa ?_;apply Y0;apply AWp.ret;apply AThen.ret
  exact Yf
theorem cmpN_sign (x y:Nat):cmpN x y = ((x:Int) - y).sign:=by
 unfold cmpN
 rcases Nat.lt_trichotomy x y with h | h | h
 ·rw [if_pos h,Int.sign_eq_neg_one_of_neg (by omega)]
 ·subst h;simp
 ·rw [if_neg (by omega),if_pos h,Int.sign_eq_one_of_pos (by omega)]
theorem cmpS_sign (x y:Int):cmpS (decide (x<0)) x.natAbs (decide (y<0)) y.natAbs = (x - y).sign:=by
 by_cases hx:x<0 <;> by_cases hy:y<0
 ·rw [decide_eq_true hx,decide_eq_true hy]
  show cmpN _ _ = _
  rw [cmpN_sign];congr 1;omega
 ·rw [decide_eq_true hx,decide_eq_false hy]
  show (-1:Int) = _
  rw [Int.sign_eq_neg_one_of_neg (by omega)]
 ·rw [decide_eq_false hx,decide_eq_true hy]
  show (1:Int) = _
  rw [Int.sign_eq_one_of_pos (by omega)]
 ·rw [decide_eq_false hx,decide_eq_false hy]
  show cmpN _ _ = _
  rw [cmpN_sign];congr 1;omega
theorem RiCmp_abs (x y:Int):Abs Tryz.prog 66 [agD (intC x),agD (intC y)] (ex (.int .i64 (x - y).sign)):=by
 rw [← cmpS_sign]
 exact RiCmp_raw _ _ _ _
theorem iCmp_abs (x y:Int):Abs Tryz.prog 122 [agD (intC x),agD (intC y)] (ex (.int .i64 (x - y).sign)):=by
 have hx:x.sign = -1∧x<0∨x.sign = 0∧x = 0∨x.sign = 1∧0<x:=by
  rcases Int.lt_trichotomy x 0 with h | h | h
  ·exact .inl ⟨Int.sign_eq_neg_one_of_neg h,h⟩
  ·exact .inr (.inl ⟨by rw [h];rfl,h⟩)
  ·exact .inr (.inr ⟨Int.sign_eq_one_of_pos h,h⟩)
 have hy:y.sign = -1∧y<0∨y.sign = 0∧y = 0∨y.sign = 1∧0<y:=by
  rcases Int.lt_trichotomy y 0 with h | h | h
  ·exact .inl ⟨Int.sign_eq_neg_one_of_neg h,h⟩
  ·exact .inr (.inl ⟨by rw [h];rfl,h⟩)
  ·exact .inr (.inr ⟨Int.sign_eq_one_of_pos h,h⟩)
 rcases (show x.sign<y.sign∨y.sign<x.sign∨(x.sign = y.sign∧x.sign<0)∨(x.sign = y.sign∧0≤x.sign) by omega) with h | h | h | h
 ·refine Ab Tryz.func122 fun s0 => ?_
  rw [Tryz.ntmps122]
  apply Y1;refine Bx ?_;refine Bx ?_;refine Wa ?_;apply Y0;apply AWp.seq
  refine AWp.dr' (DrawOk.self (by kernel_rfl)) [[],[(7,0)],[],[(9,2)]] [[],[0],[],[0,1,2]] rfl (by kernel_rfl) (by kernel_rfl) (by kernel_rfl) ?_
  refine Xq Qz.ldD ?_;refine Xq (Qz.call (sgn_abs x)) ?_;refine Xq Qz.ldD ?_;refine Xq (Qz.call (sgn_abs y)) ?_;refine ⟨_,rfl,?_⟩
  refine Wa ?_;refine Wa ?_;apply Y0;apply AWp.seq;apply Y1;refine Wm ?_;refine Wm ?_;refine Wq Qz.cmpT ?_;apply Y0;refine Ct ?_;apply AWp.seq;apply Y1;refine Wm ?_;refine Wm ?_;refine Wq Qz.cmpT ?_;apply Y0;refine Ct ?_;apply Y1;refine Wa ?_;apply Y0;apply AWp.ret;apply AThen.ret;apply AThen.ret
  exact Fin.ret (Rets.of1 (ResV.tmp rfl rfl) (D.le.of_eq (by rw [Int.sign_eq_neg_one_of_neg (show x - y<0 by omega)])))
 ·refine Ab Tryz.func122 fun s0 => ?_
  rw [Tryz.ntmps122]
  apply Y1;refine Bx ?_;refine Bx ?_;refine Wa ?_;apply Y0;apply AWp.seq
  refine AWp.dr' (DrawOk.self (by kernel_rfl)) [[],[(7,0)],[],[(9,2)]] [[],[0],[],[0,1,2]] rfl (by kernel_rfl) (by kernel_rfl) (by kernel_rfl) ?_
  refine Xq Qz.ldD ?_;refine Xq (Qz.call (sgn_abs x)) ?_;refine Xq Qz.ldD ?_;refine Xq (Qz.call (sgn_abs y)) ?_;refine ⟨_,rfl,?_⟩
  refine Wa ?_;refine Wa ?_;apply Y0;apply AWp.seq;apply Y1;refine Wm ?_;refine Wm ?_;refine Wq Qz.cmpT ?_;apply Y0;refine Ct ?_;apply AWp.seq;apply Y1;refine Wm ?_;refine Wm ?_;refine Wq Qz.cmpF ?_;apply Y0;refine Cf ?_;apply Ys;apply Y1;refine Wa ?_;apply Y0;apply AWp.ret;apply AThen.ret
  exact Fin.ret (Rets.of1 (ResV.tmp rfl rfl) (D.le.of_eq (by rw [Int.sign_eq_one_of_pos (show 0<x - y by omega)])))
 ·refine Ab Tryz.func122 fun s0 => ?_
  rw [Tryz.ntmps122]
  apply Y1;refine Bx ?_;refine Bx ?_;refine Wa ?_;apply Y0;apply AWp.seq
  refine AWp.dr' (DrawOk.self (by kernel_rfl)) [[],[(7,0)],[],[(9,2)]] [[],[0],[],[0,1,2]] rfl (by kernel_rfl) (by kernel_rfl) (by kernel_rfl) ?_
  refine Xq Qz.ldD ?_;refine Xq (Qz.call (sgn_abs x)) ?_;refine Xq Qz.ldD ?_;refine Xq (Qz.call (sgn_abs y)) ?_;refine ⟨_,rfl,?_⟩
  refine Wa ?_;refine Wa ?_;apply Y0;apply AWp.seq;apply Y1;refine Wm ?_;refine Wm ?_;refine Wq Qz.cmpF ?_;apply Y0;refine Cf ?_;apply Ys;apply AWp.seq;apply Y1;refine Wm ?_;refine Wq Qz.cmpT ?_;apply Y0;refine Ct ?_;apply Y1;refine Wq Qz.fldP ?_;refine Wq Qz.ldD1 ?_;refine Wq Qz.fldP ?_;refine Wq Qz.ldD1 ?_;refine Wq (Qz.call (compare_abs y.natAbs x.natAbs)) ?_;refine Wa ?_;apply Y0;apply AWp.ret;apply AThen.ret
  exact Fin.ret (Rets.of1 (ResV.tmp rfl rfl) (D.le.of_eq (by rw [cmpN_sign];congr 3;omega)))
 ·refine Ab Tryz.func122 fun s0 => ?_
  rw [Tryz.ntmps122]
  apply Y1;refine Bx ?_;refine Bx ?_;refine Wa ?_;apply Y0;apply AWp.seq
  refine AWp.dr' (DrawOk.self (by kernel_rfl)) [[],[(7,0)],[],[(9,2)]] [[],[0],[],[0,1,2]] rfl (by kernel_rfl) (by kernel_rfl) (by kernel_rfl) ?_
  refine Xq Qz.ldD ?_;refine Xq (Qz.call (sgn_abs x)) ?_;refine Xq Qz.ldD ?_;refine Xq (Qz.call (sgn_abs y)) ?_;refine ⟨_,rfl,?_⟩
  refine Wa ?_;refine Wa ?_;apply Y0;apply AWp.seq;apply Y1;refine Wm ?_;refine Wm ?_;refine Wq Qz.cmpF ?_;apply Y0;refine Cf ?_;apply Ys;apply AWp.seq;apply Y1;refine Wm ?_;refine Wq Qz.cmpF ?_;apply Y0;refine Cf ?_;apply Ys;apply Y1;refine Wq Qz.fldP ?_;refine Wq Qz.ldD1 ?_;refine Wq Qz.fldP ?_;refine Wq Qz.ldD1 ?_;refine Wq (Qz.call (compare_abs x.natAbs y.natAbs)) ?_;refine Wa ?_;apply Y0;apply AWp.ret
  exact Fin.ret (Rets.of1 (ResV.tmp rfl rfl) (D.le.of_eq (by rw [cmpN_sign];congr 3;omega)))
theorem product_abs (x y:Int) (hx:(digs x.natAbs).length≤1000000000) (hy:(digs y.natAbs).length≤1000000000):Abs Tryz.prog 115 [slD 52 2 [intC x,intC y]] (agD (intC (x*y))):=by
 have c1:=isOne_abs x
 have c2:=isOne_abs y
 have c0:=isOne_abs 1
 rw [decide_eq_true rfl] at c0
 refine Ab Tryz.func115 fun s0=>?_
 rw [Tryz.ntmps115]
 apply Y1;refine Al ?_;apply Y0;apply Y1;refine Wq (Qz.call (of_abs 1 (by omega) (by omega))) ?_;refine Al ?_;refine Sf ?_;apply Y0;apply AWp.seq;apply Y1;refine Wm ?_;refine Wq Qz.len ?_;refine Wm ?_;apply Y0;apply AWp.block
 refine AWp.loop (fun mz σ=>∃ (r:Int) (k:Nat),(mz = 2∧r = 1∧k = 0∨mz = 1∧r = x∧k = 1∨mz = 0∧r = x*y∧k = 2)∧σ = ⟨[(2,.ptr 0 0),(3,.ptr 1 0),(7,.d (slD 52 2 [intC x,intC y])),(8,.d (ex (.int .i64 2))),(9,.d (ex (.int .i64 (k:Nat))))],[.var 52 ([ex (.bool false),ex (.slice none 0 0)].map .d),.var 52 ((intC r).map .d)]⟩) ?le ⟨1,0,.inl ⟨rfl,rfl,rfl⟩,rfl⟩ ?round
 case le=>exact AS.le_of (by refine Yp ?_;refine Yp ?_;refine Yd ?_;refine Yd ?_;refine Yd ?_;exact FrLe.nil) (by apply Yv;apply Yv;exact HpLe.nil)
 case round =>
  rintro mz _ ⟨r,k,⟨rfl,rfl,rfl⟩ | ⟨rfl,rfl,rfl⟩ | ⟨rfl,rfl,rfl⟩,rfl⟩
  ·by_cases h1:x = 1
   ·rw [decide_eq_true h1] at c1
    apply Y1;refine Wq Qz.cmpT ?_;apply Y0;apply AWp.seq;refine Ct ?_;apply Ys;apply AWp.seq;apply AWp.block;apply Y1;refine Wq Qz.indexL ?_;refine Wq Qz.loadEf ?_;refine Al ?_;refine Sf ?_;apply Y0;apply AWp.block;apply Y1;refine Wq Qz.ldD ?_;refine Wq (Qz.call (c1)) ?_;refine Wa ?_;apply Y0;refine Ct ?_;apply AWp.skip;apply ABlock.normal;apply ABlock.normal;apply Yn;apply AWp.region;refine Wq Qz.succ ?_;refine Wm ?_;apply AWl.nil
    refine ALoop.next 1 (by omega) ⟨x,1,.inr (.inl ⟨rfl,rfl,rfl⟩),rfl⟩ ?_
    exact AS.le_of (by refine Yp ?_;refine Yp ?_;refine Yd ?_;refine Yd ?_;refine Yd ?_;exact FrLe.nil) (by apply Yv;(refine HpLe.cons (OwLe.varD (by rw [h1] <;> rfl)) ?_);exact HpLe.nil)
   ·rw [decide_eq_false h1] at c1
    apply Y1;refine Wq Qz.cmpT ?_;apply Y0;apply AWp.seq;refine Ct ?_;apply Ys;apply AWp.seq;apply AWp.block;apply Y1;refine Wq Qz.indexL ?_;refine Wq Qz.loadEf ?_;refine Al ?_;refine Sf ?_;apply Y0;apply AWp.block;apply Y1;refine Wq Qz.ldD ?_;refine Wq (Qz.call (c1)) ?_;refine Wa ?_;apply Y0;refine Cf ?_;apply Y1;refine Wq Qz.ldD ?_;refine Wq (Qz.call (c0)) ?_;refine Wa ?_;apply Y0;refine Ct ?_;apply AWp.region;refine Wq Qz.ldD ?_;refine Sf ?_;apply AWl.nil;apply ABlock.normal;apply ABlock.normal;apply Yn;apply AWp.region;refine Wq Qz.succ ?_;refine Wm ?_;apply AWl.nil
    refine ALoop.next 1 (by omega) ⟨x,1,.inr (.inl ⟨rfl,rfl,rfl⟩),rfl⟩ ?_
    exact AS.le_of (by refine Yp ?_;refine Yp ?_;refine Yd ?_;refine Yd ?_;refine Yd ?_;exact FrLe.nil) (by apply Yv;apply Yv;exact HpLe.nil)
  ·by_cases h2:y = 1
   ·rw [decide_eq_true h2] at c2
    apply Y1;refine Wq Qz.cmpT ?_;apply Y0;apply AWp.seq;refine Ct ?_;apply Ys;apply AWp.seq;apply AWp.block;apply Y1;refine Wq Qz.indexL ?_;refine Wq Qz.loadEf ?_;refine Al ?_;refine Sf ?_;apply Y0;apply AWp.block;apply Y1;refine Wq Qz.ldD ?_;refine Wq (Qz.call (c2)) ?_;refine Wa ?_;apply Y0;refine Ct ?_;apply AWp.skip;apply ABlock.normal;apply ABlock.normal;apply Yn;apply AWp.region;refine Wq Qz.succ ?_;refine Wm ?_;apply AWl.nil
    refine ALoop.next 0 (by omega) ⟨r*y,2,.inr (.inr ⟨rfl,rfl,rfl⟩),rfl⟩ ?_
    exact AS.le_of (by refine Yp ?_;refine Yp ?_;refine Yd ?_;refine Yd ?_;refine Yd ?_;exact FrLe.nil) (by apply Yv;(refine HpLe.cons (OwLe.varD (by rw [h2,Int.mul_one] <;> rfl)) ?_);exact HpLe.nil)
   ·rw [decide_eq_false h2] at c2
    by_cases h1:r = 1
    ·rw [decide_eq_true h1] at c1
     apply Y1;refine Wq Qz.cmpT ?_;apply Y0;apply AWp.seq;refine Ct ?_;apply Ys;apply AWp.seq;apply AWp.block;apply Y1;refine Wq Qz.indexL ?_;refine Wq Qz.loadEf ?_;refine Al ?_;refine Sf ?_;apply Y0;apply AWp.block;apply Y1;refine Wq Qz.ldD ?_;refine Wq (Qz.call (c2)) ?_;refine Wa ?_;apply Y0;refine Cf ?_;apply Y1;refine Wq Qz.ldD ?_;refine Wq (Qz.call (c1)) ?_;refine Wa ?_;apply Y0;refine Ct ?_;apply AWp.region;refine Wq Qz.ldD ?_;refine Sf ?_;apply AWl.nil;apply ABlock.normal;apply ABlock.normal;apply Yn;apply AWp.region;refine Wq Qz.succ ?_;refine Wm ?_;apply AWl.nil
     refine ALoop.next 0 (by omega) ⟨r*y,2,.inr (.inr ⟨rfl,rfl,rfl⟩),rfl⟩ ?_
     exact AS.le_of (by refine Yp ?_;refine Yp ?_;refine Yd ?_;refine Yd ?_;refine Yd ?_;exact FrLe.nil) (by apply Yv;(refine HpLe.cons (OwLe.varD (by rw [h1,Int.one_mul] <;> rfl)) ?_);exact HpLe.nil)
    ·rw [decide_eq_false h1] at c1
     apply Y1;refine Wq Qz.cmpT ?_;apply Y0;apply AWp.seq;refine Ct ?_;apply Ys;apply AWp.seq;apply AWp.block;apply Y1;refine Wq Qz.indexL ?_;refine Wq Qz.loadEf ?_;refine Al ?_;refine Sf ?_;apply Y0;apply AWp.block;apply Y1;refine Wq Qz.ldD ?_;refine Wq (Qz.call (c2)) ?_;refine Wa ?_;apply Y0;refine Cf ?_;apply Y1;refine Wq Qz.ldD ?_;refine Wq (Qz.call (c1)) ?_;refine Wa ?_;apply Y0;refine Cf ?_;apply AWp.region;refine Wq Qz.ldD ?_;refine Wq Qz.ldD ?_;refine Wq (Qz.call (mul_abs r y (by omega) (by omega))) ?_;refine Sf ?_;apply AWl.nil;apply ABlock.normal;apply ABlock.normal;apply Yn;apply AWp.region;refine Wq Qz.succ ?_;refine Wm ?_;apply AWl.nil
     refine ALoop.next 0 (by omega) ⟨r*y,2,.inr (.inr ⟨rfl,rfl,rfl⟩),rfl⟩ ?_
     exact AS.le_of (by refine Yp ?_;refine Yp ?_;refine Yd ?_;refine Yd ?_;refine Yd ?_;exact FrLe.nil) (by apply Yv;apply Yv;exact HpLe.nil)
  ·apply Y1;refine Wq Qz.cmpF ?_;apply Y0;apply AWp.seq;refine Cf ?_;apply AWp.exit;apply AThen.exit;apply ALoop.exit;apply ABlock.hit;apply Yn;apply Y1;refine Wq Qz.ldD ?_;refine Sf ?_;apply Y0;apply AWp.ret
   exact Fin.ret (Rets.of1 (ResV.cell rfl rfl (tab_of rfl) rfl rfl rfl) (D.le.refl _))
def qcmp (p q:Rat):Int:=(p.num*(q.den:Int) - q.num*(p.den:Int)).sign
theorem rCmp_abs (p q:Rat) (hp:RSz p 1000000000) (hq:RSz q 1000000000):Abs Tryz.prog 93 [agD (ratC p),agD (ratC q)] (ex (.int .i64 (qcmp p q))):=by
 have hdp:=p.den_pos
 have hdq:=q.den_pos
 have hx:p.num.sign = -1∧p.num<0∨p.num.sign = 0∧p.num = 0∨p.num.sign = 1∧0<p.num:=by
  rcases Int.lt_trichotomy p.num 0 with h | h | h
  ·exact .inl ⟨Int.sign_eq_neg_one_of_neg h,h⟩
  ·exact .inr (.inl ⟨by rw [h];rfl,h⟩)
  ·exact .inr (.inr ⟨Int.sign_eq_one_of_pos h,h⟩)
 have hy:q.num.sign = -1∧q.num<0∨q.num.sign = 0∧q.num = 0∨q.num.sign = 1∧0<q.num:=by
  rcases Int.lt_trichotomy q.num 0 with h | h | h
  ·exact .inl ⟨Int.sign_eq_neg_one_of_neg h,h⟩
  ·exact .inr (.inl ⟨by rw [h];rfl,h⟩)
  ·exact .inr (.inr ⟨Int.sign_eq_one_of_pos h,h⟩)
 rcases (show p.num.sign<q.num.sign∨q.num.sign<p.num.sign∨p.num.sign = q.num.sign by omega) with h | h | h
 ·have hr:qcmp p q = -1:=by
   refine Int.sign_eq_neg_one_of_neg ?_
   rcases (show (p.num<0∧0≤q.num)∨(p.num≤0∧0<q.num) by omega) with ⟨h1,h2⟩ | ⟨h1,h2⟩
   ·have h3 : p.num * (q.den : Int) < 0 := Int.mul_neg_of_neg_of_pos h1 (by omega)
    have h4:0≤q.num*(p.den:Int):=Int.mul_nonneg h2 (by omega)
    omega
   ·have h3 : p.num * (q.den : Int) ≤ 0 := Int.mul_nonpos_of_nonpos_of_nonneg h1 (by omega)
    have h4:0<q.num*(p.den:Int):=Int.mul_pos h2 (by omega)
    omega
  rw [hr]
  refine Ab Tryz.func93 fun s0=>?_
  rw [Tryz.ntmps93]
  apply Y1;refine Bx ?_;refine Bx ?_;refine Wa ?_;apply Y0;apply AWp.seq;apply AWp.seq
  refine AWp.dr' (DrawOk.self (by kernel_rfl)) [[],[(7,0)],[],[(9,2)]] [[],[0],[],[0,1,2]] rfl (by kernel_rfl) (by kernel_rfl) (by kernel_rfl) ?_
  refine Xq Qz.ldD ?_;refine Xq (Qz.call (Sign_abs p)) ?_;refine Xq Qz.ldD ?_;refine Xq (Qz.call (Sign_abs q)) ?_;refine ⟨_,rfl,?_⟩
  refine Wa ?_;refine Wa ?_;apply Y0;apply Y1;refine Wm ?_;refine Wm ?_;refine Wq Qz.cmpT ?_;apply Y0;refine Ct ?_;apply AWp.seq;apply Y1;refine Wm ?_;refine Wm ?_;refine Wq Qz.cmpT ?_;apply Y0;refine Ct ?_;apply Y1;refine Wa ?_;apply Y0;apply AWp.ret;apply AThen.ret;apply AThen.ret
  exact Yf
 ·have hr:qcmp p q = 1:=by
   refine Int.sign_eq_one_of_pos ?_
   rcases (show (q.num<0∧0≤p.num)∨(q.num≤0∧0<p.num) by omega) with ⟨h1,h2⟩ | ⟨h1,h2⟩
   ·have h3 : q.num * (p.den : Int) < 0 := Int.mul_neg_of_neg_of_pos h1 (by omega)
    have h4:0≤p.num*(q.den:Int):=Int.mul_nonneg h2 (by omega)
    omega
   ·have h3 : q.num * (p.den : Int) ≤ 0 := Int.mul_nonpos_of_nonpos_of_nonneg h1 (by omega)
    have h4:0<p.num*(q.den:Int):=Int.mul_pos h2 (by omega)
    omega
  rw [hr]
  refine Ab Tryz.func93 fun s0=>?_
  rw [Tryz.ntmps93]
  apply Y1;refine Bx ?_;refine Bx ?_;refine Wa ?_;apply Y0;apply AWp.seq;apply AWp.seq
  refine AWp.dr' (DrawOk.self (by kernel_rfl)) [[],[(7,0)],[],[(9,2)]] [[],[0],[],[0,1,2]] rfl (by kernel_rfl) (by kernel_rfl) (by kernel_rfl) ?_
  refine Xq Qz.ldD ?_;refine Xq (Qz.call (Sign_abs p)) ?_;refine Xq Qz.ldD ?_;refine Xq (Qz.call (Sign_abs q)) ?_;refine ⟨_,rfl,?_⟩
  refine Wa ?_;refine Wa ?_;apply Y0;apply Y1;refine Wm ?_;refine Wm ?_;refine Wq Qz.cmpT ?_;apply Y0;refine Ct ?_;apply AWp.seq;apply Y1;refine Wm ?_;refine Wm ?_;refine Wq Qz.cmpF ?_;apply Y0;refine Cf ?_;apply Ys;apply Y1;refine Wa ?_;apply Y0;apply AWp.ret;apply AThen.ret
  exact Yf
 ·refine Ab Tryz.func93 fun s0 => ?_
  rw [Tryz.ntmps93]
  apply Y1;refine Bx ?_;refine Bx ?_;refine Wa ?_;apply Y0;apply AWp.seq;apply AWp.seq
  refine AWp.dr' (DrawOk.self (by kernel_rfl)) [[],[(7,0)],[],[(9,2)]] [[],[0],[],[0,1,2]] rfl (by kernel_rfl) (by kernel_rfl) (by kernel_rfl) ?_
  refine Xq Qz.ldD ?_;refine Xq (Qz.call (Sign_abs p)) ?_;refine Xq Qz.ldD ?_;refine Xq (Qz.call (Sign_abs q)) ?_;refine ⟨_,rfl,?_⟩
  refine Wa ?_;refine Wa ?_;apply Y0;apply Y1;refine Wm ?_;refine Wm ?_;refine Wq Qz.cmpF ?_;apply Y0;refine Cf ?_;apply Ys;apply AWp.seq
  refine AWp.dr' (DrawOk.self (by kernel_rfl)) [[],[(17,0)],[],[(19,2)],[(18,1),(20,3)],[(21,4)],[],[(23,6)],[],[(25,8)],[(24,7),(26,9)],[(27,10)],[(22,5),(28,11)]] [[],[0],[],[2],[0,1,2,3],[0,1,2,3,4],[],[6],[],[8],[6,7,8,9],[0,1,2,3,4,5,6,7,8,9,10],[0,1,2,3,4,5,6,7,8,9,10,11]] rfl (by kernel_rfl) (by kernel_rfl) (by kernel_rfl) ?_
  refine Xq Qz.fldP ?_;refine Xq Qz.ldD ?_;refine Xq Qz.fldP ?_;refine Xq Qz.ldD ?_;(refine Hq rfl ?_;refine Bq.slice (tab_of rfl) (tab_of rfl) rfl rfl rfl rfl rfl ?_;(repeat ((first | refine ⟨_,PartOk.ag (ah rfl),?_⟩ | refine ⟨_,PartOk.one rfl (by first | exact One.ex_ rfl | exact One.sl | exact One.ep),?_⟩);refine ⟨_,rfl,?_⟩));refine ⟨_,rfl,?_⟩;refine ⟨_,rfl,?_⟩);refine Xq (Qz.call (product_abs p.num q.den hp.1 hq.2)) ?_;refine Xq Qz.fldP ?_;refine Xq Qz.ldD ?_;refine Xq Qz.fldP ?_;refine Xq Qz.ldD ?_;(refine Hq rfl ?_;refine Bq.slice (tab_of rfl) (tab_of rfl) rfl rfl rfl rfl rfl ?_;(repeat ((first | refine ⟨_,PartOk.ag (ah rfl),?_⟩ | refine ⟨_,PartOk.one rfl (by first | exact One.ex_ rfl | exact One.sl | exact One.ep),?_⟩);refine ⟨_,rfl,?_⟩));refine ⟨_,rfl,?_⟩;refine ⟨_,rfl,?_⟩);refine Xq (Qz.call (product_abs q.num p.den hq.1 hp.2)) ?_;refine Xq (Qz.call (iCmp_abs (p.num*q.den) (q.num*p.den))) ?_;refine ⟨_,rfl,?_⟩
  refine Wa ?_;apply Y0;apply AWp.ret
  exact Yf
theorem sign_one {g : Nat} (h:0<g):(((g:Int) - 1).sign == 0) = decide (g = 1):=by
 by_cases h1:g = 1
 ·subst h1;rfl
 ·rw [decide_eq_false h1,Int.sign_eq_one_of_pos (by omega)];rfl
open Classical in
theorem RrValid_abs (b : Bool) (l:List Nat) (b':Bool) (l':List Nat) (hs:Small l) (hs':Small l') (hn:l.length≤1000000000) (hn':l'.length≤1000000000):Abs Tryz.prog 21 [agD (rawC b l b' l')] (ex (.bool (decide (QOk b l b' l')))):=by
 have c1:=RiValid_abs b l hn
 have c2:=RiValid_abs b' l' hn'
 cases h1:intOk b l with
 | false =>
  have hq:¬ QOk b l b' l':=fun h=>by rw [(QOk_ok h).1] at h1;cases h1
  rw [h1] at c1
  rw [decide_eq_false hq]
  refine Ab Tryz.func21 fun s0=>?_
  rw [Tryz.ntmps21]
  apply Y1;refine Bx ?_;refine Wa ?_;apply Y0;apply AWp.seq;apply Y1;refine Wq Qz.fldP ?_;refine Wq Qz.ldD ?_;refine Wq (Qz.call (c1)) ?_;refine Wq Qz.not ?_;refine Wm ?_;refine Ws ?_;refine Ws ?_;refine Ws ?_;refine Ws ?_;refine Wq Qz.pickT ?_;refine Wm ?_;refine Ws ?_;refine Ws ?_;refine Ws ?_;refine Ws ?_;refine Wq Qz.pickT ?_;apply Y0;refine Ct ?_;apply Y1;refine Wa ?_;apply Y0;apply AWp.ret;apply AThen.ret
  exact Yf
 | true =>
  rw [h1] at c1
  cases h2:intOk b' l' with
  | false =>
   have hq:¬ QOk b l b' l':=fun h=>by rw [(QOk_ok h).2] at h2;cases h2
   rw [h2] at c2
   rw [decide_eq_false hq]
   refine Ab Tryz.func21 fun s0=>?_
   rw [Tryz.ntmps21]
   apply Y1;refine Bx ?_;refine Wa ?_;apply Y0;apply AWp.seq;apply Y1;refine Wq Qz.fldP ?_;refine Wq Qz.ldD ?_;refine Wq (Qz.call (c1)) ?_;refine Wq Qz.not ?_;refine Wm ?_;refine Wg Qz.fldP ?_;refine Wg Qz.ldD ?_;refine Wg (Qz.call (c2)) ?_;refine Wg Qz.not ?_;refine Wq Qz.pickF ?_;refine Wm ?_;refine Ws ?_;refine Ws ?_;refine Ws ?_;refine Ws ?_;refine Wq Qz.pickT ?_;apply Y0;refine Ct ?_;apply Y1;refine Wa ?_;apply Y0;apply AWp.ret;apply AThen.ret
   exact Yf
  | true =>
   rw [h2] at c2
   obtain ⟨x,rfl,rfl⟩:=intOk_int hs h1
   obtain ⟨y,rfl,rfl⟩:=intOk_int hs' h2
   by_cases hy:0<y
   ·have hsg:y.sign = 1:=Int.sign_eq_one_of_pos hy
    have hg:decide (QOk (decide (x<0)) (digs x.natAbs) (decide (y<0)) (digs y.natAbs)) = ((((Nat.gcd x.natAbs y.natAbs:Nat):Int) - 1).sign == 0):=by
     have hpos:0<Nat.gcd x.natAbs y.natAbs:=Nat.gcd_pos_of_pos_right _ (by omega)
     rw [sign_one hpos]
     exact decide_eq_decide.2 ((QOk_int x y).trans ⟨fun h=>h.2,fun h=>⟨hy,h⟩⟩)
    rw [hg]
    refine Ab Tryz.func21 fun s0=>?_
    rw [Tryz.ntmps21]
    apply Y1;refine Bx ?_;refine Wa ?_;apply Y0;apply AWp.seq;apply Y1;refine Wq Qz.fldP ?_;refine Wq Qz.ldD ?_;refine Wq (Qz.call (c1)) ?_;refine Wq Qz.not ?_;refine Wm ?_;refine Wg Qz.fldP ?_;refine Wg Qz.ldD ?_;refine Wg (Qz.call (c2)) ?_;refine Wg Qz.not ?_;refine Wq Qz.pickF ?_;refine Wm ?_;refine Wg Qz.fldP ?_;refine Wg Qz.ldD ?_;refine Wg (Qz.call (ISign_abs y)) ?_;refine Wg Qz.cmpF ?_;refine Wq Qz.pickF ?_;apply Y0;refine Cf ?_;apply Ys;apply Y1;refine Wq Qz.fldP ?_;refine Wq Qz.ldD ?_;refine Wq Qz.fldP ?_;refine Wq Qz.ldD ?_;refine Wq (Qz.call (Rgcd_abs x y (by omega) (by omega))) ?_;refine Wq (Qz.call (Rof_abs 1 (by omega) (by omega))) ?_;refine Wq (Qz.call (RiCmp_abs (Nat.gcd x.natAbs y.natAbs:Nat) 1)) ?_;refine Wq Qz.cmp ?_;refine Wa ?_;apply Y0;apply AWp.ret
    exact Yf
   ·have hsg : y.sign ≤ 0 := Int.sign_nonpos_iff.2 (by omega)
    rw [decide_eq_false fun h=>hy ((QOk_int x y).1 h).1]
    refine Ab Tryz.func21 fun s0=>?_
    rw [Tryz.ntmps21]
    apply Y1;refine Bx ?_;refine Wa ?_;apply Y0;apply AWp.seq;apply Y1;refine Wq Qz.fldP ?_;refine Wq Qz.ldD ?_;refine Wq (Qz.call (c1)) ?_;refine Wq Qz.not ?_;refine Wm ?_;refine Wg Qz.fldP ?_;refine Wg Qz.ldD ?_;refine Wg (Qz.call (c2)) ?_;refine Wg Qz.not ?_;refine Wq Qz.pickF ?_;refine Wm ?_;refine Wg Qz.fldP ?_;refine Wg Qz.ldD ?_;refine Wg (Qz.call (ISign_abs y)) ?_;refine Wg Qz.cmpT ?_;refine Wq Qz.pickF ?_;apply Y0;refine Ct ?_;apply Y1;refine Wa ?_;apply Y0;apply AWp.ret;apply AThen.ret
    exact Yf
structure RTm where
 b:Bool
 l:List Nat
 b':Bool
 l':List Nat
 m:Nat→Int
instance : Inhabited RTm:=⟨⟨false,[],false,[],fun _=>0⟩⟩
def rtC (r : RTm):List D:=rawC r.b r.l r.b' r.l' ++ monC r.m
def rtD (L : List RTm):D:=slD 72 12 (L.map rtC)
def rtAt (L : List RTm) (k:Nat):RTm:=L.getD k default
def tOk (r : RTm):Prop:=QOk r.b r.l r.b' r.l'∧r.l ≠ []∧In8 r.m 0 65535
def ValidL (L : List RTm):Prop:=∀ k,k<L.length→tOk (rtAt L k)∧(0<k→0<lex8 (rtAt L (k - 1)).m (rtAt L k).m)
def rtSz (L : List RTm):Prop:=∀ r∈L,Small r.l∧Small r.l'∧r.l.length≤1000000000∧r.l'.length≤1000000000
theorem rtAt_mem {L : List RTm} {k:Nat} (h:k<L.length):rtAt L k∈L:=by
 unfold rtAt
 rw [List.getD_eq_getElem?_getD,List.getElem?_eq_getElem h]
 exact List.getElem_mem h
theorem RmValidT_abs (a : Nat→Int) (h:In8 a 0 65535):Abs Tryz.prog 69 [agD (monC a)] (ex (.bool true)):=by
 refine Ab Tryz.func69 fun s0=>?_
 rw [Tryz.ntmps69]
 apply Y1;refine Bx ?_;refine Wa ?_;apply Y0;apply AWp.seq;apply Y1;refine Wa ?_;apply Y0;apply AWp.block
 refine AWp.loop (fun mz σ=>∃ k,k≤8∧mz = 8 - k∧σ = ⟨[(1,.ptr 0 0),(2,.d (ex (.bool false))),(3,.d (ex (.int .i64 (k:Nat))))],[.var 70 ((monC a).map .d)]⟩) ?le ⟨0,by omega,rfl,rfl⟩ ?round
 case le=>exact AS.le_of (by refine Yp ?_;refine Yd ?_;refine Yd ?_;exact FrLe.nil) (by apply Yv;exact HpLe.nil)
 case round =>
  rintro mz _ ⟨k,hk,rfl,rfl⟩
  by_cases hlt:k<8
  ·have hk':=h k hlt
   apply AWp.seq;apply Y1;refine Wm ?_;refine Wq Qz.cmpT ?_;apply Y0;refine Ct ?_;apply Ys;apply AWp.seq;apply AWp.block;apply Y1;refine Wm ?_;refine Wq Qz.ixP ?_;refine Wq Qz.ldX1 ?_;refine Wq Qz.cmpF ?_;refine Wm ?_;refine Wg Qz.move ?_;refine Wg Qz.ixP ?_;refine Wg Qz.ldX1 ?_;refine Wg Qz.cmpF ?_;refine Wq Qz.pickF ?_;apply Y0;refine Cf ?_;apply AWp.skip;apply ABlock.normal;apply Yn;apply AWp.region;refine Wm ?_;refine Wq Qz.succ ?_;refine Wa ?_;apply AWl.nil
   refine ALoop.next (8 - (k+1)) (by omega) ⟨k+1,by omega,rfl,rfl⟩ ?_
   exact AS.le_of (by refine Yp ?_;refine Yd ?_;refine Yd ?_;exact FrLe.nil) (by apply Yv;exact HpLe.nil)
  ·obtain rfl : k = 8 := by omega
   apply AWp.seq;apply Y1;refine Wm ?_;refine Wq Qz.cmpF ?_;apply Y0;refine Cf ?_;apply AWp.exit;apply AThen.exit;apply ALoop.exit;apply ABlock.hit;apply Yn;apply Y1;refine Wa ?_;apply Y0;apply AWp.ret
   exact Yf
theorem RmValidF_abs (a : Nat→Int) (h:¬ In8 a 0 65535):Abs Tryz.prog 69 [agD (monC a)] (ex (.bool false)):=by
 refine Ab Tryz.func69 fun s0=>?_
 rw [Tryz.ntmps69]
 apply Y1;refine Bx ?_;refine Wa ?_;apply Y0;apply AWp.seq;apply Y1;refine Wa ?_;apply Y0;apply AWp.block
 refine AWp.loop (fun mz σ=>∃ k,k≤8∧mz = 8 - k∧(∀ j,j<k→0≤a j∧a j≤65535)∧σ = ⟨[(1,.ptr 0 0),(2,.d (ex (.bool false))),(3,.d (ex (.int .i64 (k:Nat))))],[.var 70 ((monC a).map .d)]⟩) ?le ⟨0,by omega,rfl,fun j hj=>absurd hj (Nat.not_lt_zero j),rfl⟩ ?round
 case le=>exact AS.le_of (by refine Yp ?_;refine Yd ?_;refine Yd ?_;exact FrLe.nil) (by apply Yv;exact HpLe.nil)
 case round =>
  rintro mz _ ⟨k,hk,rfl,hall,rfl⟩
  by_cases hlt:k<8
  ·rcases (show a k < 0 ∨ (0 ≤ a k ∧ 65535 < a k) ∨ (0 ≤ a k ∧ a k ≤ 65535) by omega) with h1 | ⟨h1, h2⟩ | ⟨h1, h2⟩
   ·apply AWp.seq;apply Y1;refine Wm ?_;refine Wq Qz.cmpT ?_;apply Y0;refine Ct ?_;apply Ys;apply AWp.seq;apply AWp.block;apply Y1;refine Wm ?_;refine Wq Qz.ixP ?_;refine Wq Qz.ldX1 ?_;refine Wq Qz.cmpT ?_;refine Wm ?_;refine Ws ?_;refine Ws ?_;refine Ws ?_;refine Ws ?_;refine Wq Qz.pickT ?_;apply Y0;refine Ct ?_;apply Y1;refine Wa ?_;apply Y0;apply AWp.ret;apply ABlock.ret;apply AThen.ret;apply ALoop.ret;apply ABlock.ret;apply AThen.ret
    exact Yf
   ·apply AWp.seq;apply Y1;refine Wm ?_;refine Wq Qz.cmpT ?_;apply Y0;refine Ct ?_;apply Ys;apply AWp.seq;apply AWp.block;apply Y1;refine Wm ?_;refine Wq Qz.ixP ?_;refine Wq Qz.ldX1 ?_;refine Wq Qz.cmpF ?_;refine Wm ?_;refine Wg Qz.move ?_;refine Wg Qz.ixP ?_;refine Wg Qz.ldX1 ?_;refine Wg Qz.cmpT ?_;refine Wq Qz.pickF ?_;apply Y0;refine Ct ?_;apply Y1;refine Wa ?_;apply Y0;apply AWp.ret;apply ABlock.ret;apply AThen.ret;apply ALoop.ret;apply ABlock.ret;apply AThen.ret
    exact Yf
   ·apply AWp.seq;apply Y1;refine Wm ?_;refine Wq Qz.cmpT ?_;apply Y0;refine Ct ?_;apply Ys;apply AWp.seq;apply AWp.block;apply Y1;refine Wm ?_;refine Wq Qz.ixP ?_;refine Wq Qz.ldX1 ?_;refine Wq Qz.cmpF ?_;refine Wm ?_;refine Wg Qz.move ?_;refine Wg Qz.ixP ?_;refine Wg Qz.ldX1 ?_;refine Wg Qz.cmpF ?_;refine Wq Qz.pickF ?_;apply Y0;refine Cf ?_;apply AWp.skip;apply ABlock.normal;apply Yn;apply AWp.region;refine Wm ?_;refine Wq Qz.succ ?_;refine Wa ?_;apply AWl.nil
    refine ALoop.next (8 - (k+1)) (by omega) ⟨k+1,by omega,rfl,fun j hj=>?_,rfl⟩ ?_
    ·rcases Nat.lt_succ_iff_lt_or_eq.1 hj with h3 | rfl
     ·exact hall j h3
     ·exact ⟨h1,h2⟩
    ·exact AS.le_of (by refine Yp ?_;refine Yd ?_;refine Yd ?_;exact FrLe.nil) (by apply Yv;exact HpLe.nil)
  ·obtain rfl : k = 8 := by omega
   exact absurd hall h
open Classical in
theorem RPValid_abs (L : List RTm) (hz:rtSz L) (hn:L.length≤1000000):Abs Tryz.prog 22 [rtD L] (ex (.bool (decide (ValidL L)))):=by
 refine Ab Tryz.func22 fun s0=>?_
 rw [Tryz.ntmps22]
 apply Y1;refine Wa ?_;apply Y0;apply AWp.seq;apply Y1;refine Wa ?_;apply Y0;apply AWp.block
 refine AWp.loop (fun mz σ=>∃ k,k≤L.length∧mz = L.length - k∧(∀ j,j<k→tOk (rtAt L j)∧(0<j→0<lex8 (rtAt L (j - 1)).m (rtAt L j).m))∧σ = ⟨[(0,.d (rtD L)),(3,.d (ex (.int .i64 (k:Nat))))],[]⟩) ?le ⟨0,by omega,rfl,fun j hj=>absurd hj (Nat.not_lt_zero j),rfl⟩ ?round
 case le=>exact AS.le_of (by refine Yd ?_;refine Yd ?_;exact FrLe.nil) (by exact HpLe.nil)
 case round =>
  rintro mz _ ⟨k,hk,rfl,hall,rfl⟩
  by_cases hlt:k<L.length
  ·obtain ⟨z1,z2,z3,z4⟩:=hz _ (rtAt_mem hlt)
   have c1:=RrValid_abs (rtAt L k).b (rtAt L k).l (rtAt L k).b' (rtAt L k).l' z1 z2 z3 z4
   by_cases hq:QOk (rtAt L k).b (rtAt L k).l (rtAt L k).b' (rtAt L k).l'
   ·rw [decide_eq_true hq] at c1
    obtain ⟨q,q1,q2,q3,q4⟩:=id hq
    have c2:=RSign_abs q
    have hcc:ratC q = rawC (rtAt L k).b (rtAt L k).l (rtAt L k).b' (rtAt L k).l':=by rw [q1,q2,q3,q4];rfl
    rw [hcc] at c2
    by_cases hz0:q = 0
    ·have hs:=num_sign0.2 hz0
     have hno:¬ ValidL L:=fun h=>(h k hlt).1.2.1 (by rw [q2,hz0];exact digs_zero)
     rw [decide_eq_false hno]
     apply AWp.seq;apply Y1;refine Wm ?_;refine Wm ?_;refine Wq Qz.lenN ?_;refine Wq Qz.cmpT ?_;apply Y0;refine Ct ?_;apply Ys;apply AWp.seq;apply AWp.block;apply AWp.seq;apply Y1;refine Wm ?_;refine Wm ?_;refine Wq Qz.indexN ?_;refine Wq Qz.fldE ?_;refine Wq Qz.ldE ?_;refine Wq (Qz.call (c1)) ?_;refine Wq Qz.not ?_;refine Wm ?_;refine Wg Qz.move ?_;refine Wg Qz.move ?_;refine Wg Qz.indexN ?_;refine Wg Qz.fldE ?_;refine Wg Qz.ldE ?_;refine Wg (Qz.call (c2)) ?_;refine Wg Qz.cmpT ?_;refine Wq Qz.pickF ?_;refine Wm ?_;refine Ws ?_;refine Ws ?_;refine Ws ?_;refine Ws ?_;refine Ws ?_;refine Ws ?_;refine Ws ?_;refine Wq Qz.pickT ?_;apply Y0;refine Ct ?_;apply Y1;refine Wa ?_;apply Y0;apply AWp.ret;apply AThen.ret;apply ABlock.ret;apply AThen.ret;apply ALoop.ret;apply ABlock.ret;apply AThen.ret
     exact Yf
    ·have hs:q.num.sign ≠ 0:=fun e=>hz0 (num_sign0.1 e)
     by_cases hm:In8 (rtAt L k).m 0 65535
     ·have htk : tOk (rtAt L k) := ⟨hq, fun e => by rw [q2] at e; have := digs_length_zero.1 (by rw [e]; rfl); exact rnum_ne hz0 (by omega), hm⟩
      rcases Nat.eq_zero_or_pos k with h0 | h0
      ·subst h0
       apply AWp.seq;apply Y1;refine Wm ?_;refine Wm ?_;refine Wq Qz.lenN ?_;refine Wq Qz.cmpT ?_;apply Y0;refine Ct ?_;apply Ys;apply AWp.seq;apply AWp.block;apply AWp.seq;apply Y1;refine Wm ?_;refine Wm ?_;refine Wq Qz.indexN ?_;refine Wq Qz.fldE ?_;refine Wq Qz.ldE ?_;refine Wq (Qz.call (c1)) ?_;refine Wq Qz.not ?_;refine Wm ?_;refine Wg Qz.move ?_;refine Wg Qz.move ?_;refine Wg Qz.indexN ?_;refine Wg Qz.fldE ?_;refine Wg Qz.ldE ?_;refine Wg (Qz.call (c2)) ?_;refine Wg Qz.cmpF ?_;refine Wq Qz.pickF ?_;refine Wm ?_;refine Wg Qz.move ?_;refine Wg Qz.move ?_;refine Wg Qz.indexN ?_;refine Wg Qz.fldE ?_;refine Wg Qz.loadEf ?_;refine Wg (Qz.call (RmValidT_abs (rtAt L 0).m hm)) ?_;refine Wg Qz.not ?_;refine Wq Qz.pickF ?_;apply Y0;refine Cf ?_;apply Ys;apply AWp.seq
       refine AWp.dr' (DrawOk.self (by kernel_rfl)) [[],[(35,0)],[(36,1)],[],[],[(39,4)],[(38,3),(40,5)],[(41,6)],[(42,7)],[],[],[(44,9),(45,10)],[(46,11)],[(47,12)],[(43,8),(48,13)],[(49,14)],[(37,2),(50,15)]] [[],[0],[0,1],[0,1,2],[0,1,2],[0,1,2,4],[0,1,2,3,4,5],[0,1,2,3,4,5,6],[0,1,2,3,4,5,6,7],[0,1,2],[0,1,2],[0,1,2,9,10],[0,1,2,9,10,11],[0,1,2,9,10,11,12],[0,1,2,3,4,5,6,7,8,9,10,11,12,13],[0,1,2,3,4,5,6,7,8,9,10,11,12,13,14],[0,1,2,3,4,5,6,7,8,9,10,11,12,13,14,15]] rfl (by kernel_rfl) (by kernel_rfl) (by kernel_rfl) ?_
       refine Xq Qz.move ?_;refine Xq Qz.cmpF ?_;refine Xq Qz.move ?_;refine Xs ?_;refine Xs ?_;refine Xs ?_;refine Xs ?_;refine Xs ?_;refine Xs ?_;refine Xs ?_;refine Xs ?_;refine Xs ?_;refine Xs ?_;refine Xs ?_;refine Xs ?_;refine Xs ?_;refine Xq Qz.pickF ?_;refine ⟨_,rfl,?_⟩
       apply Y0;refine Cf ?_;apply AWp.skip;apply ABlock.normal;apply Yn;apply AWp.region;refine Wm ?_;refine Wq Qz.succ ?_;refine Wa ?_;apply AWl.nil
       refine ALoop.next (L.length - 1) (by omega) ⟨1,by omega,rfl,fun j hj=>by obtain rfl:j = 0:=(by omega);exact ⟨htk,fun h=>absurd h (Nat.lt_irrefl _)⟩,rfl⟩ ?_
       exact AS.le_of (by refine Yd ?_;refine Yd ?_;exact FrLe.nil) (by exact HpLe.nil)
      ·by_cases hc:0<lex8 (rtAt L (k - 1)).m (rtAt L k).m
       ·apply AWp.seq;apply Y1;refine Wm ?_;refine Wm ?_;refine Wq Qz.lenN ?_;refine Wq Qz.cmpT ?_;apply Y0;refine Ct ?_;apply Ys;apply AWp.seq;apply AWp.block;apply AWp.seq;apply Y1;refine Wm ?_;refine Wm ?_;refine Wq Qz.indexN ?_;refine Wq Qz.fldE ?_;refine Wq Qz.ldE ?_;refine Wq (Qz.call (c1)) ?_;refine Wq Qz.not ?_;refine Wm ?_;refine Wg Qz.move ?_;refine Wg Qz.move ?_;refine Wg Qz.indexN ?_;refine Wg Qz.fldE ?_;refine Wg Qz.ldE ?_;refine Wg (Qz.call (c2)) ?_;refine Wg Qz.cmpF ?_;refine Wq Qz.pickF ?_;refine Wm ?_;refine Wg Qz.move ?_;refine Wg Qz.move ?_;refine Wg Qz.indexN ?_;refine Wg Qz.fldE ?_;refine Wg Qz.loadEf ?_;refine Wg (Qz.call (RmValidT_abs (rtAt L k).m hm)) ?_;refine Wg Qz.not ?_;refine Wq Qz.pickF ?_;apply Y0;refine Cf ?_;apply Ys;apply AWp.seq
        refine AWp.dr' (DrawOk.self (by kernel_rfl)) [[],[(35,0)],[(36,1)],[],[],[(39,4)],[(38,3),(40,5)],[(41,6)],[(42,7)],[],[],[(44,9),(45,10)],[(46,11)],[(47,12)],[(43,8),(48,13)],[(49,14)],[(37,2),(50,15)]] [[],[0],[0,1],[0,1,2],[0,1,2],[0,1,2,4],[0,1,2,3,4,5],[0,1,2,3,4,5,6],[0,1,2,3,4,5,6,7],[0,1,2],[0,1,2],[0,1,2,9,10],[0,1,2,9,10,11],[0,1,2,9,10,11,12],[0,1,2,3,4,5,6,7,8,9,10,11,12,13],[0,1,2,3,4,5,6,7,8,9,10,11,12,13,14],[0,1,2,3,4,5,6,7,8,9,10,11,12,13,14,15]] rfl (by kernel_rfl) (by kernel_rfl) (by kernel_rfl) ?_
        refine Xq Qz.move ?_;refine Xq Qz.cmpT ?_;refine Xq Qz.move ?_;refine Xg Qz.move ?_;refine Xg Qz.move ?_;refine Xg Qz.pred ?_;refine Xg Qz.indexN ?_;refine Xg Qz.fldE ?_;refine Xg Qz.loadEf ?_;refine Xg Qz.move ?_;refine Xg Qz.move ?_;refine Xg Qz.indexN ?_;refine Xg Qz.fldE ?_;refine Xg Qz.loadEf ?_;refine Xg (Qz.call (RmCmp_abs (rtAt L (k - 1)).m (rtAt L k).m)) ?_;refine Xg Qz.cmpF ?_;refine Xq Qz.pickT ?_;refine ⟨_,rfl,?_⟩
        apply Y0;refine Cf ?_;apply AWp.skip;apply ABlock.normal;apply Yn;apply AWp.region;refine Wm ?_;refine Wq Qz.succ ?_;refine Wa ?_;apply AWl.nil
        refine ALoop.next (L.length - (k+1)) (by omega) ⟨k+1,by omega,rfl,fun j hj=>?_,rfl⟩ ?_
        ·rcases Nat.lt_succ_iff_lt_or_eq.1 hj with h | rfl
         ·exact hall j h
         ·exact ⟨htk,fun _=>hc⟩
        ·exact AS.le_of (by refine Yd ?_;refine Yd ?_;exact FrLe.nil) (by exact HpLe.nil)
       ·have hno:¬ ValidL L:=fun h=>hc ((h k hlt).2 h0)
        rw [decide_eq_false hno]
        apply AWp.seq;apply Y1;refine Wm ?_;refine Wm ?_;refine Wq Qz.lenN ?_;refine Wq Qz.cmpT ?_;apply Y0;refine Ct ?_;apply Ys;apply AWp.seq;apply AWp.block;apply AWp.seq;apply Y1;refine Wm ?_;refine Wm ?_;refine Wq Qz.indexN ?_;refine Wq Qz.fldE ?_;refine Wq Qz.ldE ?_;refine Wq (Qz.call (c1)) ?_;refine Wq Qz.not ?_;refine Wm ?_;refine Wg Qz.move ?_;refine Wg Qz.move ?_;refine Wg Qz.indexN ?_;refine Wg Qz.fldE ?_;refine Wg Qz.ldE ?_;refine Wg (Qz.call (c2)) ?_;refine Wg Qz.cmpF ?_;refine Wq Qz.pickF ?_;refine Wm ?_;refine Wg Qz.move ?_;refine Wg Qz.move ?_;refine Wg Qz.indexN ?_;refine Wg Qz.fldE ?_;refine Wg Qz.loadEf ?_;refine Wg (Qz.call (RmValidT_abs (rtAt L k).m hm)) ?_;refine Wg Qz.not ?_;refine Wq Qz.pickF ?_;apply Y0;refine Cf ?_;apply Ys;apply AWp.seq
        refine AWp.dr' (DrawOk.self (by kernel_rfl)) [[],[(35,0)],[(36,1)],[],[],[(39,4)],[(38,3),(40,5)],[(41,6)],[(42,7)],[],[],[(44,9),(45,10)],[(46,11)],[(47,12)],[(43,8),(48,13)],[(49,14)],[(37,2),(50,15)]] [[],[0],[0,1],[0,1,2],[0,1,2],[0,1,2,4],[0,1,2,3,4,5],[0,1,2,3,4,5,6],[0,1,2,3,4,5,6,7],[0,1,2],[0,1,2],[0,1,2,9,10],[0,1,2,9,10,11],[0,1,2,9,10,11,12],[0,1,2,3,4,5,6,7,8,9,10,11,12,13],[0,1,2,3,4,5,6,7,8,9,10,11,12,13,14],[0,1,2,3,4,5,6,7,8,9,10,11,12,13,14,15]] rfl (by kernel_rfl) (by kernel_rfl) (by kernel_rfl) ?_
        refine Xq Qz.move ?_;refine Xq Qz.cmpT ?_;refine Xq Qz.move ?_;refine Xg Qz.move ?_;refine Xg Qz.move ?_;refine Xg Qz.pred ?_;refine Xg Qz.indexN ?_;refine Xg Qz.fldE ?_;refine Xg Qz.loadEf ?_;refine Xg Qz.move ?_;refine Xg Qz.move ?_;refine Xg Qz.indexN ?_;refine Xg Qz.fldE ?_;refine Xg Qz.loadEf ?_;refine Xg (Qz.call (RmCmp_abs (rtAt L (k - 1)).m (rtAt L k).m)) ?_;refine Xg Qz.cmpT ?_;refine Xq Qz.pickT ?_;refine ⟨_,rfl,?_⟩
        apply Y0;refine Ct ?_;apply Y1;refine Wa ?_;apply Y0;apply AWp.ret;apply ABlock.ret;apply AThen.ret;apply ALoop.ret;apply ABlock.ret;apply AThen.ret
        exact Yf
     ·have hno:¬ ValidL L:=fun h=>hm (h k hlt).1.2.2
      rw [decide_eq_false hno]
      apply AWp.seq;apply Y1;refine Wm ?_;refine Wm ?_;refine Wq Qz.lenN ?_;refine Wq Qz.cmpT ?_;apply Y0;refine Ct ?_;apply Ys;apply AWp.seq;apply AWp.block;apply AWp.seq;apply Y1;refine Wm ?_;refine Wm ?_;refine Wq Qz.indexN ?_;refine Wq Qz.fldE ?_;refine Wq Qz.ldE ?_;refine Wq (Qz.call (c1)) ?_;refine Wq Qz.not ?_;refine Wm ?_;refine Wg Qz.move ?_;refine Wg Qz.move ?_;refine Wg Qz.indexN ?_;refine Wg Qz.fldE ?_;refine Wg Qz.ldE ?_;refine Wg (Qz.call (c2)) ?_;refine Wg Qz.cmpF ?_;refine Wq Qz.pickF ?_;refine Wm ?_;refine Wg Qz.move ?_;refine Wg Qz.move ?_;refine Wg Qz.indexN ?_;refine Wg Qz.fldE ?_;refine Wg Qz.loadEf ?_;refine Wg (Qz.call (RmValidF_abs (rtAt L k).m hm)) ?_;refine Wg Qz.not ?_;refine Wq Qz.pickF ?_;apply Y0;refine Ct ?_;apply Y1;refine Wa ?_;apply Y0;apply AWp.ret;apply AThen.ret;apply ABlock.ret;apply AThen.ret;apply ALoop.ret;apply ABlock.ret;apply AThen.ret
      exact Yf
   ·rw [decide_eq_false hq] at c1
    have hno:¬ ValidL L:=fun h=>hq (h k hlt).1.1
    rw [decide_eq_false hno]
    apply AWp.seq;apply Y1;refine Wm ?_;refine Wm ?_;refine Wq Qz.lenN ?_;refine Wq Qz.cmpT ?_;apply Y0;refine Ct ?_;apply Ys;apply AWp.seq;apply AWp.block;apply AWp.seq;apply Y1;refine Wm ?_;refine Wm ?_;refine Wq Qz.indexN ?_;refine Wq Qz.fldE ?_;refine Wq Qz.ldE ?_;refine Wq (Qz.call (c1)) ?_;refine Wq Qz.not ?_;refine Wm ?_;refine Ws ?_;refine Ws ?_;refine Ws ?_;refine Ws ?_;refine Ws ?_;refine Ws ?_;refine Ws ?_;refine Wq Qz.pickT ?_;refine Wm ?_;refine Ws ?_;refine Ws ?_;refine Ws ?_;refine Ws ?_;refine Ws ?_;refine Ws ?_;refine Ws ?_;refine Wq Qz.pickT ?_;apply Y0;refine Ct ?_;apply Y1;refine Wa ?_;apply Y0;apply AWp.ret;apply AThen.ret;apply ABlock.ret;apply AThen.ret;apply ALoop.ret;apply ABlock.ret;apply AThen.ret
    exact Yf
  ·obtain rfl : k = L.length := by omega
   have hyes:ValidL L:=hall
   rw [decide_eq_true hyes]
   apply AWp.seq;apply Y1;refine Wm ?_;refine Wm ?_;refine Wq Qz.lenN ?_;refine Wq Qz.cmpF ?_;apply Y0;refine Cf ?_;apply AWp.exit;apply AThen.exit;apply ALoop.exit;apply ABlock.hit;apply Yn;apply Y1;refine Wa ?_;apply Y0;apply AWp.ret
   exact Yf
def ofT (t : Tm):RTm:=⟨decide (t.c.num<0),digs t.c.num.natAbs,decide ((t.c.den:Int)<0),digs (t.c.den:Int).natAbs,t.m⟩
theorem polD_rt (P : List Tm):polD P = rtD (P.map ofT):=by
 unfold polD rtD
 rw [List.map_map]
 rfl
theorem rtAt_of {P : List Tm} {k:Nat} (h:k<P.length):rtAt (P.map ofT) k = ofT (tAt P k):=by
 unfold rtAt tAt
 rw [List.getD_eq_getElem?_getD,List.getElem?_map,List.getElem?_eq_getElem h]
 simp [List.getD_eq_getElem?_getD,List.getElem?_eq_getElem h]
theorem ofT_ok (t : Tm):QOk (ofT t).b (ofT t).l (ofT t).b' (ofT t).l':=⟨t.c,rfl,rfl,rfl,rfl⟩
theorem dec_at {P : List Tm} (h:Dec P) {k:Nat} (hk:k<P.length) (h0:0<k):0<lx (tAt P (k - 1)).m (tAt P k).m:=by
 unfold Dec at h
 rw [List.pairwise_iff_getElem] at h
 have e:∀ k (hk:k<P.length),tAt P k = P[k]:=fun k hk=>by simp [tAt,List.getD_eq_getElem?_getD,List.getElem?_eq_getElem hk]
 rw [e _ hk,e (k - 1) (by omega)]
 exact h (k - 1) k (by omega) hk (by omega)
theorem valid_of {P : List Tm} (h:Canon P) (hi:PIn P 0 65535):ValidL (P.map ofT):=fun k hk=>by
 rw [List.length_map] at hk
 rw [rtAt_of hk]
 refine ⟨⟨ofT_ok _,fun e=>?_,hi _ (tAt_mem hk)⟩,fun h0=>?_⟩
 ·have h1:=h.2 _ (tAt_mem hk)
  have h2:digs (tAt P k).c.num.natAbs = []:=e
  have:=digs_length_zero.1 (show (digs (tAt P k).c.num.natAbs).length = 0 by rw [h2];rfl)
  exact rnum_ne h1 (by omega)
 ·rw [rtAt_of (by omega)]
  show 0<lex8 (tAt P (k - 1)).m (tAt P k).m
  rw [← lx_lex]
  exact dec_at h.1 hk h0
theorem rtSz_of {P : List Tm} {N:Nat} (h:PSz P N) (hN:N≤1000000000):rtSz (P.map ofT):=fun r hr=>by
 obtain ⟨t,ht,rfl⟩:=List.mem_map.1 hr
 have:=h t ht
 exact ⟨small_digs _,small_digs _,Nat.le_trans this.1 hN,Nat.le_trans this.2 hN⟩
open Classical in
theorem RPValidP_abs (P : List Tm) (N:Nat) (h:Canon P) (hi:PIn P 0 65535) (hs:PSz P N) (hN:N≤1000000000) (hn:P.length≤1000000):Abs Tryz.prog 22 [polD P] (ex (.bool true)):=by
 have:=RPValid_abs (P.map ofT) (rtSz_of hs hN) (by simpa using hn)
 rw [decide_eq_true (valid_of h hi)] at this
 rw [polD_rt]
 exact this
theorem RConst_abs (c : Rat):Abs Tryz.prog 79 [agD (ratC c)] (polD (constL c)):=by
 by_cases hz:c = 0
 ·have hs:=num_sign0.2 hz
  refine Ab Tryz.func79 fun s0=>?_
  rw [Tryz.ntmps79]
  apply Y1;refine Bx ?_;refine Wa ?_;apply Y0;apply AWp.seq;apply Y1;refine Wq Qz.ldD ?_;refine Wq (Qz.call (RSign_abs c)) ?_;refine Wq Qz.cmpT ?_;apply Y0;refine Ct ?_;apply Y1;refine Wa ?_;apply Y0;apply AWp.ret;apply AThen.ret
  exact Fin.ret (Rets.of1 (ResV.tmp rfl rfl) (D.le.trans D.le_nilP (D.le_pol (by rw [constL,if_pos hz]))))
 ·have hs:c.num.sign ≠ 0:=fun e=>hz (num_sign0.1 e)
  refine Ab Tryz.func79 fun s0=>?_
  rw [Tryz.ntmps79]
  apply Y1;refine Bx ?_;refine Wa ?_;apply Y0;apply AWp.seq;apply Y1;refine Wq Qz.ldD ?_;refine Wq (Qz.call (RSign_abs c)) ?_;refine Wq Qz.cmpF ?_;apply Y0;refine Cf ?_;apply Ys;apply Y1;refine Wq Qz.ldD ?_;(refine AWs.q rfl rfl ?_;(refine Bq.build (tab_of rfl) rfl rfl rfl ?_;(repeat ((first | refine ⟨_,PartOk.ag (ao rfl),?_⟩ | refine ⟨_,PartOk.one rfl (by first | exact One.ex_ rfl | exact One.sl | exact One.ep),?_⟩);refine ⟨_,rfl,?_⟩));refine ⟨_,rfl,?_⟩));refine Wq (Bq.slice1 (ao rfl) (tab_of rfl) (tab_of rfl) rfl rfl rfl rfl rfl) ?_;refine Wa ?_;apply Y0;apply AWp.ret
  exact Fin.ret (Rets.of1 (ResV.tmp rfl rfl) (D.le.of_eq (by rw [constL,if_neg hz];rfl)))
theorem RInt_abs (n : Int) (h0:-9223372036854775808≤n) (h1:n≤9223372036854775807):Abs Tryz.prog 37 [ex (.int .i64 n)] (polD (constL n)):=by
 refine Ab Tryz.func37 fun s0=>?_
 rw [Tryz.ntmps37]
 apply Y1;refine Wa ?_;apply Y0;apply Y1;refine Wm ?_;refine Wq (Qz.call (RWhole_abs n h0 h1)) ?_;refine Wq (Qz.call (RConst_abs n)) ?_;refine Wa ?_;apply Y0;apply AWp.ret
 exact Yf
theorem RVar_abs (i : Nat) (hi:i<8):Abs Tryz.prog 78 [ex (.int .i64 (i:Nat))] (tupD [polD [⟨1,unitE i⟩],ex (.int .i64 0)]):=by
 refine Ab Tryz.func78 fun s0=>?_
 rw [Tryz.ntmps78]
 apply Y1;refine Wa ?_;refine Wa ?_;apply Y0;apply AWp.seq;apply Y1;refine Wm ?_;refine Wq Qz.cmpF ?_;refine Wm ?_;refine Wg Qz.move ?_;refine Wg Qz.cmpF ?_;refine Wq Qz.pickF ?_;apply Y0;refine Cf ?_;apply Ys;apply Y1;(refine AWs.q rfl rfl ?_;(refine Bq.arr (tab_of rfl) (tab_of rfl) rfl rfl ?_;(repeat ((first | refine ⟨_,PartOk.ag (ao rfl),?_⟩ | refine ⟨_,PartOk.one rfl (by first | exact One.ex_ rfl | exact One.sl | exact One.ep),?_⟩);refine ⟨_,rfl,?_⟩));refine ⟨_,rfl,?_⟩));refine Al ?_;refine Sf ?_;apply Y0;apply Y1;refine Wm ?_;refine Wq Qz.ixP ?_
 refine AWl.fold 0 (monC fun _=>0) rfl rfl rfl ?_
 (refine AWs.stX1 (ao rfl) (ao rfl) rfl (tab_of rfl) (by first | exact One.ex_ rfl | exact One.sl | exact One.ep) (SetAt.mon (by first | omega | (simp;omega))) rfl ?_);apply Y0;apply AWp.seq
 refine AWp.dr' (DrawOk.self (by kernel_rfl)) [[],[],[(14,0),(15,1)],[(16,2)]] [[],[],[0,1],[0,1,2]] rfl (by kernel_rfl) (by kernel_rfl) (by kernel_rfl) ?_
 refine Xq (Qz.call (RWhole_abs 1 (by omega) (by omega))) ?_;refine Xq Qz.ldD ?_;(refine Hq rfl ?_;refine Bq.build (tab_of rfl) rfl rfl rfl ?_;(repeat ((first | refine ⟨_,PartOk.ag (ah rfl),?_⟩ | refine ⟨_,PartOk.one rfl (by first | exact One.ex_ rfl | exact One.sl | exact One.ep),?_⟩);refine ⟨_,rfl,?_⟩));refine ⟨_,rfl,?_⟩;refine ⟨_,rfl,?_⟩);(refine Xq (Bq.slice1 (ah rfl) (tab_of rfl) (tab_of rfl) rfl rfl rfl rfl rfl) ?_);refine ⟨_,rfl,?_⟩
 refine Wa ?_;refine Wa ?_;apply Y0;apply AWp.ret
 exact Fin.ret (Rets.of2 (ResV.tmp rfl rfl) (ResV.tmp rfl rfl) (D.le.tup2 (D.le.refl _) (D.le.refl _)))
theorem RX_abs (i : Nat) (hi:i<8):Abs Tryz.prog 36 [ex (.int .i64 (i:Nat))] (polD [⟨1,unitE i⟩]):=by
 refine Ab Tryz.func36 fun s0=>?_
 rw [Tryz.ntmps36]
 apply Y1;refine Wa ?_;apply Y0;apply Y1;refine Wm ?_;refine Wq (Qz.call (RVar_abs i hi)) ?_;refine Wm ?_;refine Wq Qz.ext ?_;refine Wq Qz.ext ?_;refine Wa ?_;refine Wa ?_;apply Y0;apply Y1;refine Wm ?_;refine Wa ?_;apply Y0;apply AWp.ret
 exact Yf
def mixM (a b:Nat→Int) (k:Nat):Nat→Int:=fun j=>if j<k then a j+b j else a j
theorem mixM_set (a b:Nat→Int) (k:Nat):setM (mixM a b k) k (a k+b k) = mixM a b (k+1):=by
 funext j
 simp only [setM,mixM]
 rcases Nat.lt_trichotomy j k with h | h | h
 ·rw [if_neg (by omega),if_pos h,if_pos (by omega)]
 ·subst h;simp
 ·rw [if_neg (by omega),if_neg (by omega),if_neg (by omega)]
theorem mixM_at (a b:Nat→Int) (k:Nat):mixM a b k k = a k:=if_neg (Nat.lt_irrefl k)
theorem RmMul_abs (a b:Nat→Int) (ha:In8 a 0 65535) (hb:In8 b 0 65535) (h:In8 (add8 a b) 0 65535):Abs Tryz.prog 72 [agD (monC a),agD (monC b)] (tupD [agD (monC (add8 a b)),ex (.int .i64 0)]):=by
 refine Ab Tryz.func72 fun s0=>?_
 rw [Tryz.ntmps72]
 apply Y1;refine Bx ?_;refine Bx ?_;refine Al ?_;refine Wa ?_;apply Y0;apply AWp.seq;apply Y1;refine Wa ?_;apply Y0;apply AWp.block
 refine AWp.loop (fun mz σ=>∃ k,k≤8∧mz = 8 - k∧σ = ⟨[(2,.ptr 0 0),(3,.ptr 1 0),(4,.ptr 2 0),(6,.d (ex (.int .i64 (k:Nat))))],[.var 70 ((monC (mixM a b k)).map .d),.var 70 ((monC b).map .d),.var 70 ((monC fun _=>0).map .d)]⟩) ?le ⟨0,by omega,rfl,rfl⟩ ?round
 case le=>exact AS.le_of (by refine Yp ?_;refine Yp ?_;refine Yp ?_;refine Yd ?_;exact FrLe.nil) (by apply Yv;apply Yv;apply Yv;exact HpLe.nil)
 case round =>
  rintro mz _ ⟨k,hk,rfl,rfl⟩
  by_cases hlt:k<8
  ·have h1:=mixM_at a b k
   have h2:=ha k hlt
   have h3:=hb k hlt
   apply AWp.seq;apply Y1;refine Wm ?_;refine Wq Qz.cmpT ?_;apply Y0;refine Ct ?_;apply Ys;apply AWp.seq;apply AWp.block
   refine AWp.dr' (DrawOk.self (by kernel_rfl)) [[],[(11,0)],[(12,1)],[],[(14,3)],[(15,4)],[(13,2),(16,5)],[(11,0)]] [[],[0],[0,1],[],[3],[3,4],[0,1,2,3,4,5],[0,1,2,3,4,5,6]] rfl (by kernel_rfl) (by kernel_rfl) (by kernel_rfl) ?_
   refine Xq Qz.move ?_;refine Xq Qz.ixP ?_;refine Xq Qz.ldX1 ?_;refine Xq Qz.move ?_;refine Xq Qz.ixP ?_;refine Xq Qz.ldX1 ?_;refine Xq Qz.add ?_;refine Xq Qz.ixP ?_;refine ⟨_,rfl,?_⟩
   (refine AWs.stX1 (ao rfl) (ao rfl) rfl (tab_of rfl) (by first | exact One.ex_ rfl | exact One.sl | exact One.ep) (SetAt.mon (by first | omega | (simp;omega))) rfl ?_);apply AWl.nil;apply ABlock.normal;apply Yn;apply AWp.region;refine Wm ?_;refine Wq Qz.succ ?_;refine Wa ?_;apply AWl.nil
   refine ALoop.next (8 - (k+1)) (by omega) ⟨k+1,by omega,rfl,rfl⟩ ?_
   exact AS.le_of (by refine Yp ?_;refine Yp ?_;refine Yp ?_;refine Yd ?_;exact FrLe.nil) (by refine HpLe.cons (OwLe.varD (by rw [h1,mixM_set])) ?_;apply Yv;apply Yv;exact HpLe.nil)
  ·obtain rfl : k = 8 := by omega
   apply AWp.seq;apply Y1;refine Wm ?_;refine Wq Qz.cmpF ?_;apply Y0;refine Cf ?_;apply AWp.exit;apply AThen.exit;apply ALoop.exit;apply ABlock.hit;apply Yn;apply AWp.seq;apply Y1;refine Wq Qz.ldD ?_;refine Wq (Qz.call (RmValidT_abs (mixM a b 8) fun i hi=>by have:=h i hi;rw [mixM,if_pos hi];exact this)) ?_;refine Wq Qz.not ?_;apply Y0;refine Cf ?_;apply Ys;apply Y1;refine Wq Qz.ldD ?_;refine Sf ?_;refine Wa ?_;apply Y0;apply AWp.ret
   exact Fin.ret (Rets.of2 (ResV.cell rfl rfl (tab_of rfl) rfl rfl rfl) (ResV.tmp rfl rfl) (D.le.tup2 (D.le.refl _) (D.le.refl _)))
theorem mrg_gt {s t:Tm} {P Q:List Tm} (h:lx s.m t.m = 1):mrg (s :: P) (t :: Q) = s :: mrg P (t :: Q):=by
 rw [mrg,if_pos (show 0<lx s.m t.m by omega)]
theorem mrg_lt {s t:Tm} {P Q:List Tm} (h:lx s.m t.m = -1):mrg (s :: P) (t :: Q) = t :: mrg (s :: P) Q:=by
 rw [mrg,if_neg (show ¬ 0<lx s.m t.m by omega),if_pos (show lx s.m t.m<0 by omega)]
theorem mrg_eq {s t:Tm} {P Q:List Tm} (h:lx s.m t.m = 0):mrg (s :: P) (t :: Q) = if s.c+t.c = 0 then mrg P Q else ⟨s.c+t.c,s.m⟩ :: mrg P Q:=by
 rw [mrg,if_neg (show ¬ 0<lx s.m t.m by omega),if_neg (show ¬ lx s.m t.m<0 by omega)]
theorem nil_mrg (Q : List Tm):mrg [] Q = Q:=by rw [mrg]
theorem RAdd_pol (P Q:List Tm) (N M:Nat) (hP:PSz P N) (hQ:PSz Q M) (hNM:N+M+1≤4398046511103) (hn:P.length+Q.length≤100000):Abs Tryz.prog 29 [polD P,polD Q] (polD (mrg P Q)):=by
 refine Ab Tryz.func29 fun s0=>?_
 rw [Tryz.ntmps29]
 apply Y1;refine Wa ?_;apply Y0;apply Y1;refine AWs.b0 (tab_of rfl) (tab_of rfl) rfl rfl rfl rfl rfl ?_;refine Wa ?_;apply Y0;apply Y1;refine Wa ?_;refine Wa ?_;apply Y0;apply AWp.seq;apply AWp.block
 refine AWp.loop (fun mz σ=>∃ (i k:Nat) (R:List Tm),i≤P.length∧k≤Q.length∧R ++ mrg (P.drop i) (Q.drop k) = mrg P Q∧R.length≤i+k∧mz = (P.length - i)+(Q.length - k)∧σ = ⟨[(0,.d (polD P)),(1,.d (polD Q)),(5,.own 0),(6,.d (ex (.int .i64 (i:Nat)))),(7,.d (ex (.int .i64 (k:Nat))))],[.row 72 12 (R.map tmC)]⟩) ?le ⟨0,0,[],by omega,by omega,rfl,by simp,rfl,rfl⟩ ?round
 case le=>exact AS.le_of (by refine Yd ?_;refine Yd ?_;refine FrLe.cons rfl (AVle.own rfl) ?_;refine Yd ?_;refine Yd ?_;exact FrLe.nil) (by apply Yr;exact HpLe.nil)
 case round =>
  rintro mz _ ⟨i,k,R,hi,hk,heq,hl,rfl,rfl⟩
  by_cases hip:i<P.length
  ·have hdP:=drop_tAt hip
   by_cases hkq:k<Q.length
   ·have hdQ:=drop_tAt hkq
    rw [hdP,hdQ] at heq
    have hs:=hP _ (tAt_mem hip)
    have ht:=hQ _ (tAt_mem hkq)
    rcases lx_val (tAt P i).m (tAt Q k).m with hc | hc | hc
    ·have hc' : lex8 (tAt P i).m (tAt Q k).m = -1 := by rw [← lx_lex]; exact hc
     apply AWp.seq;apply Y1;refine Wm ?_;refine Wm ?_;refine Wq Qz.lenN ?_;refine Wq Qz.cmpT ?_;refine Wm ?_;refine Ws ?_;refine Ws ?_;refine Ws ?_;refine Ws ?_;refine Wq Qz.pickT ?_;apply Y0;refine Ct ?_;apply Ys;apply AWp.block;apply AWp.seq;apply AWp.seq
     refine AWp.dr' (DrawOk.self (by kernel_rfl)) [[],[],[(21,1)],[(20,0),(22,2)],[(23,3)],[],[],[(26,6)],[(25,5),(27,7)],[(28,8)],[],[],[(30,10),(31,11)],[(32,12)],[(33,13)],[],[],[(35,15),(36,16)],[(37,17)],[(38,18)],[(34,14),(39,19)],[(40,20)],[(29,9),(41,21)],[(24,4),(42,22)]] [[],[],[1],[0,1,2],[0,1,2,3],[0,1,2,3,4],[0,1,2,3,4],[0,1,2,3,4,6],[0,1,2,3,4,5,6,7],[0,1,2,3,4,5,6,7,8],[0,1,2,3,4,5,6,7,8,9],[0,1,2,3,4,5,6,7,8,9],[0,1,2,3,4,5,6,7,8,9,10,11],[0,1,2,3,4,5,6,7,8,9,10,11,12],[0,1,2,3,4,5,6,7,8,9,10,11,12,13],[0,1,2,3,4,5,6,7,8,9],[0,1,2,3,4,5,6,7,8,9],[0,1,2,3,4,5,6,7,8,9,15,16],[0,1,2,3,4,5,6,7,8,9,15,16,17],[0,1,2,3,4,5,6,7,8,9,15,16,17,18],[0,1,2,3,4,5,6,7,8,9,10,11,12,13,14,15,16,17,18,19],[0,1,2,3,4,5,6,7,8,9,10,11,12,13,14,15,16,17,18,19,20],[0,1,2,3,4,5,6,7,8,9,10,11,12,13,14,15,16,17,18,19,20,21],[0,1,2,3,4,5,6,7,8,9,10,11,12,13,14,15,16,17,18,19,20,21,22]] rfl (by kernel_rfl) (by kernel_rfl) (by kernel_rfl) ?_
     refine Xq Qz.move ?_;refine Xq Qz.move ?_;refine Xq Qz.lenN ?_;refine Xq Qz.cmpF ?_;refine Xq Qz.move ?_;refine Xg Qz.move ?_;refine Xg Qz.move ?_;refine Xg Qz.lenN ?_;refine Xg Qz.cmpT ?_;refine Xg Qz.move ?_;refine Xg Qz.move ?_;refine Xg Qz.move ?_;refine Xg Qz.indexN ?_;refine Xg Qz.fldE ?_;refine Xg Qz.loadEf ?_;refine Xg Qz.move ?_;refine Xg Qz.move ?_;refine Xg Qz.indexN ?_;refine Xg Qz.fldE ?_;refine Xg Qz.loadEf ?_;refine Xg (Qz.call (RmCmp_abs (tAt P i).m (tAt Q k).m)) ?_;refine Xg Qz.cmpF ?_;refine Xg Qz.pickT ?_;refine Xq Qz.pickF ?_;refine ⟨_,rfl,?_⟩
     apply Y0;refine Cf ?_;apply Ys;apply AWp.seq;apply AWp.seq
     refine AWp.dr' (DrawOk.self (by kernel_rfl)) [[],[],[(54,1)],[(53,0),(55,2)],[(56,3)],[],[],[(58,5),(59,6)],[(60,7)],[(61,8)],[],[],[(63,10),(64,11)],[(65,12)],[(66,13)],[(62,9),(67,14)],[(68,15)],[(57,4),(69,16)]] [[],[],[1],[0,1,2],[0,1,2,3],[0,1,2,3,4],[0,1,2,3,4],[0,1,2,3,4,5,6],[0,1,2,3,4,5,6,7],[0,1,2,3,4,5,6,7,8],[0,1,2,3,4],[0,1,2,3,4],[0,1,2,3,4,10,11],[0,1,2,3,4,10,11,12],[0,1,2,3,4,10,11,12,13],[0,1,2,3,4,5,6,7,8,9,10,11,12,13,14],[0,1,2,3,4,5,6,7,8,9,10,11,12,13,14,15],[0,1,2,3,4,5,6,7,8,9,10,11,12,13,14,15,16]] rfl (by kernel_rfl) (by kernel_rfl) (by kernel_rfl) ?_
     refine Xq Qz.move ?_;refine Xq Qz.move ?_;refine Xq Qz.lenN ?_;refine Xq Qz.cmpF ?_;refine Xq Qz.move ?_;refine Xg Qz.move ?_;refine Xg Qz.move ?_;refine Xg Qz.indexN ?_;refine Xg Qz.fldE ?_;refine Xg Qz.loadEf ?_;refine Xg Qz.move ?_;refine Xg Qz.move ?_;refine Xg Qz.indexN ?_;refine Xg Qz.fldE ?_;refine Xg Qz.loadEf ?_;refine Xg (Qz.call (RmCmp_abs (tAt P i).m (tAt Q k).m)) ?_;refine Xg Qz.cmpT ?_;refine Xq Qz.pickF ?_;refine ⟨_,rfl,?_⟩
     apply Y0;refine Ct ?_;apply Y1;refine Wm ?_;refine Wm ?_;refine Wm ?_;refine Wq Qz.indexN ?_;refine Wq Qz.loadEf ?_;refine Wq (Bq.slice1 (ao rfl) (tab_of rfl) (tab_of rfl) rfl rfl rfl rfl rfl) ?_;(refine Ap ?_);refine Wa ?_;apply Y0;apply Y1;refine Wm ?_;refine Wq Qz.succ ?_;refine Wa ?_;apply Y0;apply AWp.exit;apply AThen.exit;apply ABlock.hit
     refine ALoop.next ((P.length - i)+(Q.length - (k+1))) (by omega) ⟨i,k+1,R ++ [tAt Q k],by omega,by omega,?_,by simp;omega,rfl,rfl⟩ ?_
     ·rw [mrg_lt hc] at heq
      rw [← heq,hdP];simp
     ·exact AS.le_of (by refine Yd ?_;refine Yd ?_;refine FrLe.cons rfl (AVle.own rfl) ?_;refine Yd ?_;refine Yd ?_;exact FrLe.nil) (by refine HpLe.cons (OwLe.row (map_snoc tmC R (tAt Q k))) ?_;exact HpLe.nil)
    ·have hc' : lex8 (tAt P i).m (tAt Q k).m = 0 := by rw [← lx_lex]; exact hc
     by_cases hz:(tAt P i).c+(tAt Q k).c = 0
     ·have hsg:=num_sign0.2 hz
      apply AWp.seq;apply Y1;refine Wm ?_;refine Wm ?_;refine Wq Qz.lenN ?_;refine Wq Qz.cmpT ?_;refine Wm ?_;refine Ws ?_;refine Ws ?_;refine Ws ?_;refine Ws ?_;refine Wq Qz.pickT ?_;apply Y0;refine Ct ?_;apply Ys;apply AWp.block;apply AWp.seq;apply AWp.seq
      refine AWp.dr' (DrawOk.self (by kernel_rfl)) [[],[],[(21,1)],[(20,0),(22,2)],[(23,3)],[],[],[(26,6)],[(25,5),(27,7)],[(28,8)],[],[],[(30,10),(31,11)],[(32,12)],[(33,13)],[],[],[(35,15),(36,16)],[(37,17)],[(38,18)],[(34,14),(39,19)],[(40,20)],[(29,9),(41,21)],[(24,4),(42,22)]] [[],[],[1],[0,1,2],[0,1,2,3],[0,1,2,3,4],[0,1,2,3,4],[0,1,2,3,4,6],[0,1,2,3,4,5,6,7],[0,1,2,3,4,5,6,7,8],[0,1,2,3,4,5,6,7,8,9],[0,1,2,3,4,5,6,7,8,9],[0,1,2,3,4,5,6,7,8,9,10,11],[0,1,2,3,4,5,6,7,8,9,10,11,12],[0,1,2,3,4,5,6,7,8,9,10,11,12,13],[0,1,2,3,4,5,6,7,8,9],[0,1,2,3,4,5,6,7,8,9],[0,1,2,3,4,5,6,7,8,9,15,16],[0,1,2,3,4,5,6,7,8,9,15,16,17],[0,1,2,3,4,5,6,7,8,9,15,16,17,18],[0,1,2,3,4,5,6,7,8,9,10,11,12,13,14,15,16,17,18,19],[0,1,2,3,4,5,6,7,8,9,10,11,12,13,14,15,16,17,18,19,20],[0,1,2,3,4,5,6,7,8,9,10,11,12,13,14,15,16,17,18,19,20,21],[0,1,2,3,4,5,6,7,8,9,10,11,12,13,14,15,16,17,18,19,20,21,22]] rfl (by kernel_rfl) (by kernel_rfl) (by kernel_rfl) ?_
      refine Xq Qz.move ?_;refine Xq Qz.move ?_;refine Xq Qz.lenN ?_;refine Xq Qz.cmpF ?_;refine Xq Qz.move ?_;refine Xg Qz.move ?_;refine Xg Qz.move ?_;refine Xg Qz.lenN ?_;refine Xg Qz.cmpT ?_;refine Xg Qz.move ?_;refine Xg Qz.move ?_;refine Xg Qz.move ?_;refine Xg Qz.indexN ?_;refine Xg Qz.fldE ?_;refine Xg Qz.loadEf ?_;refine Xg Qz.move ?_;refine Xg Qz.move ?_;refine Xg Qz.indexN ?_;refine Xg Qz.fldE ?_;refine Xg Qz.loadEf ?_;refine Xg (Qz.call (RmCmp_abs (tAt P i).m (tAt Q k).m)) ?_;refine Xg Qz.cmpF ?_;refine Xg Qz.pickT ?_;refine Xq Qz.pickF ?_;refine ⟨_,rfl,?_⟩
      apply Y0;refine Cf ?_;apply Ys;apply AWp.seq;apply AWp.seq
      refine AWp.dr' (DrawOk.self (by kernel_rfl)) [[],[],[(54,1)],[(53,0),(55,2)],[(56,3)],[],[],[(58,5),(59,6)],[(60,7)],[(61,8)],[],[],[(63,10),(64,11)],[(65,12)],[(66,13)],[(62,9),(67,14)],[(68,15)],[(57,4),(69,16)]] [[],[],[1],[0,1,2],[0,1,2,3],[0,1,2,3,4],[0,1,2,3,4],[0,1,2,3,4,5,6],[0,1,2,3,4,5,6,7],[0,1,2,3,4,5,6,7,8],[0,1,2,3,4],[0,1,2,3,4],[0,1,2,3,4,10,11],[0,1,2,3,4,10,11,12],[0,1,2,3,4,10,11,12,13],[0,1,2,3,4,5,6,7,8,9,10,11,12,13,14],[0,1,2,3,4,5,6,7,8,9,10,11,12,13,14,15],[0,1,2,3,4,5,6,7,8,9,10,11,12,13,14,15,16]] rfl (by kernel_rfl) (by kernel_rfl) (by kernel_rfl) ?_
      refine Xq Qz.move ?_;refine Xq Qz.move ?_;refine Xq Qz.lenN ?_;refine Xq Qz.cmpF ?_;refine Xq Qz.move ?_;refine Xg Qz.move ?_;refine Xg Qz.move ?_;refine Xg Qz.indexN ?_;refine Xg Qz.fldE ?_;refine Xg Qz.loadEf ?_;refine Xg Qz.move ?_;refine Xg Qz.move ?_;refine Xg Qz.indexN ?_;refine Xg Qz.fldE ?_;refine Xg Qz.loadEf ?_;refine Xg (Qz.call (RmCmp_abs (tAt P i).m (tAt Q k).m)) ?_;refine Xg Qz.cmpF ?_;refine Xq Qz.pickF ?_;refine ⟨_,rfl,?_⟩
      apply Y0;refine Cf ?_;apply Ys;apply AWp.seq
      refine AWp.dr' (DrawOk.self (by kernel_rfl)) [[],[],[(80,0),(81,1)],[(82,2)],[(83,3)],[],[],[(85,5),(86,6)],[(87,7)],[(88,8)],[(84,4),(89,9)],[]] [[],[],[0,1],[0,1,2],[0,1,2,3],[],[],[5,6],[5,6,7],[5,6,7,8],[0,1,2,3,4,5,6,7,8,9],[]] rfl (by kernel_rfl) (by kernel_rfl) (by kernel_rfl) ?_
      refine Xq Qz.move ?_;refine Xq Qz.move ?_;refine Xq Qz.indexN ?_;refine Xq Qz.fldE ?_;refine Xq Qz.ldE ?_;refine Xq Qz.move ?_;refine Xq Qz.move ?_;refine Xq Qz.indexN ?_;refine Xq Qz.fldE ?_;refine Xq Qz.ldE ?_;refine Xq (Qz.call (RAdd_abs (tAt P i).c (tAt Q k).c N M hs ht hNM)) ?_;refine Xn ?_;refine ⟨_,rfl,?_⟩
      refine Sf ?_;apply Y0;apply AWp.seq;apply Y1;refine Wq Qz.ldD ?_;refine Wq (Qz.call (RSign_abs ((tAt P i).c+(tAt Q k).c))) ?_;refine Wq Qz.cmpF ?_;apply Y0;refine Cf ?_;apply Ys;apply Y1;refine Wm ?_;refine Wq Qz.succ ?_;refine Wa ?_;apply Y0;apply AWp.region;refine Wm ?_;refine Wq Qz.succ ?_;refine Wa ?_;apply AWl.nil;apply ABlock.normal
      refine ALoop.next ((P.length - (i+1))+(Q.length - (k+1))) (by omega) ⟨i+1,k+1,R,by omega,by omega,?_,by omega,rfl,rfl⟩ ?_
      ·rw [mrg_eq hc,if_pos hz] at heq
       exact heq
      ·exact AS.le_of (by refine Yd ?_;refine Yd ?_;refine FrLe.cons rfl (AVle.own rfl) ?_;refine Yd ?_;refine Yd ?_;exact FrLe.nil) (by apply Yr;exact HpLe.nil)
     ·have hsg:((tAt P i).c+(tAt Q k).c).num.sign ≠ 0:=fun e=>hz (num_sign0.1 e)
      apply AWp.seq;apply Y1;refine Wm ?_;refine Wm ?_;refine Wq Qz.lenN ?_;refine Wq Qz.cmpT ?_;refine Wm ?_;refine Ws ?_;refine Ws ?_;refine Ws ?_;refine Ws ?_;refine Wq Qz.pickT ?_;apply Y0;refine Ct ?_;apply Ys;apply AWp.block;apply AWp.seq;apply AWp.seq
      refine AWp.dr' (DrawOk.self (by kernel_rfl)) [[],[],[(21,1)],[(20,0),(22,2)],[(23,3)],[],[],[(26,6)],[(25,5),(27,7)],[(28,8)],[],[],[(30,10),(31,11)],[(32,12)],[(33,13)],[],[],[(35,15),(36,16)],[(37,17)],[(38,18)],[(34,14),(39,19)],[(40,20)],[(29,9),(41,21)],[(24,4),(42,22)]] [[],[],[1],[0,1,2],[0,1,2,3],[0,1,2,3,4],[0,1,2,3,4],[0,1,2,3,4,6],[0,1,2,3,4,5,6,7],[0,1,2,3,4,5,6,7,8],[0,1,2,3,4,5,6,7,8,9],[0,1,2,3,4,5,6,7,8,9],[0,1,2,3,4,5,6,7,8,9,10,11],[0,1,2,3,4,5,6,7,8,9,10,11,12],[0,1,2,3,4,5,6,7,8,9,10,11,12,13],[0,1,2,3,4,5,6,7,8,9],[0,1,2,3,4,5,6,7,8,9],[0,1,2,3,4,5,6,7,8,9,15,16],[0,1,2,3,4,5,6,7,8,9,15,16,17],[0,1,2,3,4,5,6,7,8,9,15,16,17,18],[0,1,2,3,4,5,6,7,8,9,10,11,12,13,14,15,16,17,18,19],[0,1,2,3,4,5,6,7,8,9,10,11,12,13,14,15,16,17,18,19,20],[0,1,2,3,4,5,6,7,8,9,10,11,12,13,14,15,16,17,18,19,20,21],[0,1,2,3,4,5,6,7,8,9,10,11,12,13,14,15,16,17,18,19,20,21,22]] rfl (by kernel_rfl) (by kernel_rfl) (by kernel_rfl) ?_
      refine Xq Qz.move ?_;refine Xq Qz.move ?_;refine Xq Qz.lenN ?_;refine Xq Qz.cmpF ?_;refine Xq Qz.move ?_;refine Xg Qz.move ?_;refine Xg Qz.move ?_;refine Xg Qz.lenN ?_;refine Xg Qz.cmpT ?_;refine Xg Qz.move ?_;refine Xg Qz.move ?_;refine Xg Qz.move ?_;refine Xg Qz.indexN ?_;refine Xg Qz.fldE ?_;refine Xg Qz.loadEf ?_;refine Xg Qz.move ?_;refine Xg Qz.move ?_;refine Xg Qz.indexN ?_;refine Xg Qz.fldE ?_;refine Xg Qz.loadEf ?_;refine Xg (Qz.call (RmCmp_abs (tAt P i).m (tAt Q k).m)) ?_;refine Xg Qz.cmpF ?_;refine Xg Qz.pickT ?_;refine Xq Qz.pickF ?_;refine ⟨_,rfl,?_⟩
      apply Y0;refine Cf ?_;apply Ys;apply AWp.seq;apply AWp.seq
      refine AWp.dr' (DrawOk.self (by kernel_rfl)) [[],[],[(54,1)],[(53,0),(55,2)],[(56,3)],[],[],[(58,5),(59,6)],[(60,7)],[(61,8)],[],[],[(63,10),(64,11)],[(65,12)],[(66,13)],[(62,9),(67,14)],[(68,15)],[(57,4),(69,16)]] [[],[],[1],[0,1,2],[0,1,2,3],[0,1,2,3,4],[0,1,2,3,4],[0,1,2,3,4,5,6],[0,1,2,3,4,5,6,7],[0,1,2,3,4,5,6,7,8],[0,1,2,3,4],[0,1,2,3,4],[0,1,2,3,4,10,11],[0,1,2,3,4,10,11,12],[0,1,2,3,4,10,11,12,13],[0,1,2,3,4,5,6,7,8,9,10,11,12,13,14],[0,1,2,3,4,5,6,7,8,9,10,11,12,13,14,15],[0,1,2,3,4,5,6,7,8,9,10,11,12,13,14,15,16]] rfl (by kernel_rfl) (by kernel_rfl) (by kernel_rfl) ?_
      refine Xq Qz.move ?_;refine Xq Qz.move ?_;refine Xq Qz.lenN ?_;refine Xq Qz.cmpF ?_;refine Xq Qz.move ?_;refine Xg Qz.move ?_;refine Xg Qz.move ?_;refine Xg Qz.indexN ?_;refine Xg Qz.fldE ?_;refine Xg Qz.loadEf ?_;refine Xg Qz.move ?_;refine Xg Qz.move ?_;refine Xg Qz.indexN ?_;refine Xg Qz.fldE ?_;refine Xg Qz.loadEf ?_;refine Xg (Qz.call (RmCmp_abs (tAt P i).m (tAt Q k).m)) ?_;refine Xg Qz.cmpF ?_;refine Xq Qz.pickF ?_;refine ⟨_,rfl,?_⟩
      apply Y0;refine Cf ?_;apply Ys;apply AWp.seq
      refine AWp.dr' (DrawOk.self (by kernel_rfl)) [[],[],[(80,0),(81,1)],[(82,2)],[(83,3)],[],[],[(85,5),(86,6)],[(87,7)],[(88,8)],[(84,4),(89,9)],[]] [[],[],[0,1],[0,1,2],[0,1,2,3],[],[],[5,6],[5,6,7],[5,6,7,8],[0,1,2,3,4,5,6,7,8,9],[]] rfl (by kernel_rfl) (by kernel_rfl) (by kernel_rfl) ?_
      refine Xq Qz.move ?_;refine Xq Qz.move ?_;refine Xq Qz.indexN ?_;refine Xq Qz.fldE ?_;refine Xq Qz.ldE ?_;refine Xq Qz.move ?_;refine Xq Qz.move ?_;refine Xq Qz.indexN ?_;refine Xq Qz.fldE ?_;refine Xq Qz.ldE ?_;refine Xq (Qz.call (RAdd_abs (tAt P i).c (tAt Q k).c N M hs ht hNM)) ?_;refine Xn ?_;refine ⟨_,rfl,?_⟩
      refine Sf ?_;apply Y0;apply AWp.seq;apply Y1;refine Wq Qz.ldD ?_;refine Wq (Qz.call (RSign_abs ((tAt P i).c+(tAt Q k).c))) ?_;refine Wq Qz.cmpT ?_;apply Y0;refine Ct ?_
      refine AWp.dr' (DrawOk.self (by kernel_rfl)) [[],[],[],[],[(96,2),(97,3)],[(98,4)],[(99,5)],[(95,1),(100,6)],[(101,7)]] [[],[],[],[],[2,3],[2,3,4],[2,3,4,5],[1,2,3,4,5,6],[1,2,3,4,5,6,7]] rfl (by kernel_rfl) (by kernel_rfl) (by kernel_rfl) ?_
      refine Xq Qz.move ?_;refine Xq Qz.ldD ?_;refine Xq Qz.move ?_;refine Xq Qz.move ?_;refine Xq Qz.indexN ?_;refine Xq Qz.fldE ?_;refine Xq Qz.loadEf ?_;(refine Hq rfl ?_;refine Bq.build (tab_of rfl) rfl rfl rfl ?_;(repeat ((first | refine ⟨_,PartOk.ag (ah rfl),?_⟩ | refine ⟨_,PartOk.one rfl (by first | exact One.ex_ rfl | exact One.sl | exact One.ep),?_⟩);refine ⟨_,rfl,?_⟩));refine ⟨_,rfl,?_⟩;refine ⟨_,rfl,?_⟩);(refine Xq (Bq.slice1 (ah rfl) (tab_of rfl) (tab_of rfl) rfl rfl rfl rfl rfl) ?_);refine ⟨_,rfl,?_⟩
      (refine Ap ?_);refine Wa ?_;apply Y0;apply Y1;refine Wm ?_;refine Wq Qz.succ ?_;refine Wa ?_;apply Y0;apply AWp.region;refine Wm ?_;refine Wq Qz.succ ?_;refine Wa ?_;apply AWl.nil;apply ABlock.normal
      refine ALoop.next ((P.length - (i+1))+(Q.length - (k+1))) (by omega) ⟨i+1,k+1,R ++ [⟨(tAt P i).c+(tAt Q k).c,(tAt P i).m⟩],by omega,by omega,?_,by simp;omega,rfl,rfl⟩ ?_
      ·rw [mrg_eq hc,if_neg hz] at heq
       rw [← heq];simp
      ·exact AS.le_of (by refine Yd ?_;refine Yd ?_;refine FrLe.cons rfl (AVle.own rfl) ?_;refine Yd ?_;refine Yd ?_;exact FrLe.nil) (by refine HpLe.cons (OwLe.row (map_snoc tmC R ⟨(tAt P i).c+(tAt Q k).c,(tAt P i).m⟩)) ?_;exact HpLe.nil)
    ·have hc' : lex8 (tAt P i).m (tAt Q k).m = 1 := by rw [← lx_lex]; exact hc
     apply AWp.seq;apply Y1;refine Wm ?_;refine Wm ?_;refine Wq Qz.lenN ?_;refine Wq Qz.cmpT ?_;refine Wm ?_;refine Ws ?_;refine Ws ?_;refine Ws ?_;refine Ws ?_;refine Wq Qz.pickT ?_;apply Y0;refine Ct ?_;apply Ys;apply AWp.block;apply AWp.seq;apply AWp.seq
     refine AWp.dr' (DrawOk.self (by kernel_rfl)) [[],[],[(21,1)],[(20,0),(22,2)],[(23,3)],[],[],[(26,6)],[(25,5),(27,7)],[(28,8)],[],[],[(30,10),(31,11)],[(32,12)],[(33,13)],[],[],[(35,15),(36,16)],[(37,17)],[(38,18)],[(34,14),(39,19)],[(40,20)],[(29,9),(41,21)],[(24,4),(42,22)]] [[],[],[1],[0,1,2],[0,1,2,3],[0,1,2,3,4],[0,1,2,3,4],[0,1,2,3,4,6],[0,1,2,3,4,5,6,7],[0,1,2,3,4,5,6,7,8],[0,1,2,3,4,5,6,7,8,9],[0,1,2,3,4,5,6,7,8,9],[0,1,2,3,4,5,6,7,8,9,10,11],[0,1,2,3,4,5,6,7,8,9,10,11,12],[0,1,2,3,4,5,6,7,8,9,10,11,12,13],[0,1,2,3,4,5,6,7,8,9],[0,1,2,3,4,5,6,7,8,9],[0,1,2,3,4,5,6,7,8,9,15,16],[0,1,2,3,4,5,6,7,8,9,15,16,17],[0,1,2,3,4,5,6,7,8,9,15,16,17,18],[0,1,2,3,4,5,6,7,8,9,10,11,12,13,14,15,16,17,18,19],[0,1,2,3,4,5,6,7,8,9,10,11,12,13,14,15,16,17,18,19,20],[0,1,2,3,4,5,6,7,8,9,10,11,12,13,14,15,16,17,18,19,20,21],[0,1,2,3,4,5,6,7,8,9,10,11,12,13,14,15,16,17,18,19,20,21,22]] rfl (by kernel_rfl) (by kernel_rfl) (by kernel_rfl) ?_
     refine Xq Qz.move ?_;refine Xq Qz.move ?_;refine Xq Qz.lenN ?_;refine Xq Qz.cmpF ?_;refine Xq Qz.move ?_;refine Xg Qz.move ?_;refine Xg Qz.move ?_;refine Xg Qz.lenN ?_;refine Xg Qz.cmpT ?_;refine Xg Qz.move ?_;refine Xg Qz.move ?_;refine Xg Qz.move ?_;refine Xg Qz.indexN ?_;refine Xg Qz.fldE ?_;refine Xg Qz.loadEf ?_;refine Xg Qz.move ?_;refine Xg Qz.move ?_;refine Xg Qz.indexN ?_;refine Xg Qz.fldE ?_;refine Xg Qz.loadEf ?_;refine Xg (Qz.call (RmCmp_abs (tAt P i).m (tAt Q k).m)) ?_;refine Xg Qz.cmpT ?_;refine Xg Qz.pickT ?_;refine Xq Qz.pickF ?_;refine ⟨_,rfl,?_⟩
     apply Y0;refine Ct ?_;apply Y1;refine Wm ?_;refine Wm ?_;refine Wm ?_;refine Wq Qz.indexN ?_;refine Wq Qz.loadEf ?_;refine Wq (Bq.slice1 (ao rfl) (tab_of rfl) (tab_of rfl) rfl rfl rfl rfl rfl) ?_;(refine Ap ?_);refine Wa ?_;apply Y0;apply Y1;refine Wm ?_;refine Wq Qz.succ ?_;refine Wa ?_;apply Y0;apply AWp.exit;apply AThen.exit;apply ABlock.hit
     refine ALoop.next ((P.length - (i+1))+(Q.length - k)) (by omega) ⟨i+1,k,R ++ [tAt P i],by omega,by omega,?_,by simp;omega,rfl,rfl⟩ ?_
     ·rw [mrg_gt hc] at heq
      rw [← heq,hdQ];simp
     ·exact AS.le_of (by refine Yd ?_;refine Yd ?_;refine FrLe.cons rfl (AVle.own rfl) ?_;refine Yd ?_;refine Yd ?_;exact FrLe.nil) (by refine HpLe.cons (OwLe.row (map_snoc tmC R (tAt P i))) ?_;exact HpLe.nil)
   ·apply AWp.seq;apply Y1;refine Wm ?_;refine Wm ?_;refine Wq Qz.lenN ?_;refine Wq Qz.cmpT ?_;refine Wm ?_;refine Ws ?_;refine Ws ?_;refine Ws ?_;refine Ws ?_;refine Wq Qz.pickT ?_;apply Y0;refine Ct ?_;apply Ys;apply AWp.block;apply AWp.seq;apply AWp.seq
    refine AWp.dr' (DrawOk.self (by kernel_rfl)) [[],[],[(21,1)],[(20,0),(22,2)],[(23,3)],[],[],[(26,6)],[(25,5),(27,7)],[(28,8)],[],[],[(30,10),(31,11)],[(32,12)],[(33,13)],[],[],[(35,15),(36,16)],[(37,17)],[(38,18)],[(34,14),(39,19)],[(40,20)],[(29,9),(41,21)],[(24,4),(42,22)]] [[],[],[1],[0,1,2],[0,1,2,3],[0,1,2,3,4],[0,1,2,3,4],[0,1,2,3,4,6],[0,1,2,3,4,5,6,7],[0,1,2,3,4,5,6,7,8],[0,1,2,3,4,5,6,7,8,9],[0,1,2,3,4,5,6,7,8,9],[0,1,2,3,4,5,6,7,8,9,10,11],[0,1,2,3,4,5,6,7,8,9,10,11,12],[0,1,2,3,4,5,6,7,8,9,10,11,12,13],[0,1,2,3,4,5,6,7,8,9],[0,1,2,3,4,5,6,7,8,9],[0,1,2,3,4,5,6,7,8,9,15,16],[0,1,2,3,4,5,6,7,8,9,15,16,17],[0,1,2,3,4,5,6,7,8,9,15,16,17,18],[0,1,2,3,4,5,6,7,8,9,10,11,12,13,14,15,16,17,18,19],[0,1,2,3,4,5,6,7,8,9,10,11,12,13,14,15,16,17,18,19,20],[0,1,2,3,4,5,6,7,8,9,10,11,12,13,14,15,16,17,18,19,20,21],[0,1,2,3,4,5,6,7,8,9,10,11,12,13,14,15,16,17,18,19,20,21,22]] rfl (by kernel_rfl) (by kernel_rfl) (by kernel_rfl) ?_
    refine Xq Qz.move ?_;refine Xq Qz.move ?_;refine Xq Qz.lenN ?_;refine Xq Qz.cmpT ?_;refine Xq Qz.move ?_;refine Xs ?_;refine Xs ?_;refine Xs ?_;refine Xs ?_;refine Xs ?_;refine Xs ?_;refine Xs ?_;refine Xs ?_;refine Xs ?_;refine Xs ?_;refine Xs ?_;refine Xs ?_;refine Xs ?_;refine Xs ?_;refine Xs ?_;refine Xs ?_;refine Xs ?_;refine Xs ?_;refine Xq Qz.pickT ?_;refine ⟨_,rfl,?_⟩
    apply Y0;refine Ct ?_;apply Y1;refine Wm ?_;refine Wm ?_;refine Wm ?_;refine Wq Qz.indexN ?_;refine Wq Qz.loadEf ?_;refine Wq (Bq.slice1 (ao rfl) (tab_of rfl) (tab_of rfl) rfl rfl rfl rfl rfl) ?_;(refine Ap ?_);refine Wa ?_;apply Y0;apply Y1;refine Wm ?_;refine Wq Qz.succ ?_;refine Wa ?_;apply Y0;apply AWp.exit;apply AThen.exit;apply ABlock.hit
    refine ALoop.next ((P.length - (i+1))+(Q.length - k)) (by omega) ⟨i+1,k,R ++ [tAt P i],by omega,by omega,?_,by simp;omega,rfl,rfl⟩ ?_
    ·have hq : Q.drop k = [] := List.drop_eq_nil_of_le (by omega)
     rw [hdP,hq,mrg_nil] at heq
     rw [← heq,hq,mrg_nil];simp
    ·exact AS.le_of (by refine Yd ?_;refine Yd ?_;refine FrLe.cons rfl (AVle.own rfl) ?_;refine Yd ?_;refine Yd ?_;exact FrLe.nil) (by refine HpLe.cons (OwLe.row (map_snoc tmC R (tAt P i))) ?_;exact HpLe.nil)
  ·have hp : P.drop i = [] := List.drop_eq_nil_of_le (by omega)
   by_cases hkq:k<Q.length
   ·have hdQ:=drop_tAt hkq
    apply AWp.seq;apply Y1;refine Wm ?_;refine Wm ?_;refine Wq Qz.lenN ?_;refine Wq Qz.cmpF ?_;refine Wm ?_;refine Wg Qz.move ?_;refine Wg Qz.move ?_;refine Wg Qz.lenN ?_;refine Wg Qz.cmpT ?_;refine Wq Qz.pickF ?_;apply Y0;refine Ct ?_;apply Ys;apply AWp.block;apply AWp.seq;apply AWp.seq
    refine AWp.dr' (DrawOk.self (by kernel_rfl)) [[],[],[(21,1)],[(20,0),(22,2)],[(23,3)],[],[],[(26,6)],[(25,5),(27,7)],[(28,8)],[],[],[(30,10),(31,11)],[(32,12)],[(33,13)],[],[],[(35,15),(36,16)],[(37,17)],[(38,18)],[(34,14),(39,19)],[(40,20)],[(29,9),(41,21)],[(24,4),(42,22)]] [[],[],[1],[0,1,2],[0,1,2,3],[0,1,2,3,4],[0,1,2,3,4],[0,1,2,3,4,6],[0,1,2,3,4,5,6,7],[0,1,2,3,4,5,6,7,8],[0,1,2,3,4,5,6,7,8,9],[0,1,2,3,4,5,6,7,8,9],[0,1,2,3,4,5,6,7,8,9,10,11],[0,1,2,3,4,5,6,7,8,9,10,11,12],[0,1,2,3,4,5,6,7,8,9,10,11,12,13],[0,1,2,3,4,5,6,7,8,9],[0,1,2,3,4,5,6,7,8,9],[0,1,2,3,4,5,6,7,8,9,15,16],[0,1,2,3,4,5,6,7,8,9,15,16,17],[0,1,2,3,4,5,6,7,8,9,15,16,17,18],[0,1,2,3,4,5,6,7,8,9,10,11,12,13,14,15,16,17,18,19],[0,1,2,3,4,5,6,7,8,9,10,11,12,13,14,15,16,17,18,19,20],[0,1,2,3,4,5,6,7,8,9,10,11,12,13,14,15,16,17,18,19,20,21],[0,1,2,3,4,5,6,7,8,9,10,11,12,13,14,15,16,17,18,19,20,21,22]] rfl (by kernel_rfl) (by kernel_rfl) (by kernel_rfl) ?_
    refine Xq Qz.move ?_;refine Xq Qz.move ?_;refine Xq Qz.lenN ?_;refine Xq Qz.cmpF ?_;refine Xq Qz.move ?_;refine Xg Qz.move ?_;refine Xg Qz.move ?_;refine Xg Qz.lenN ?_;refine Xg Qz.cmpF ?_;refine Xg Qz.move ?_;refine Xs ?_;refine Xs ?_;refine Xs ?_;refine Xs ?_;refine Xs ?_;refine Xs ?_;refine Xs ?_;refine Xs ?_;refine Xs ?_;refine Xs ?_;refine Xs ?_;refine Xs ?_;refine Xg Qz.pickF ?_;refine Xq Qz.pickF ?_;refine ⟨_,rfl,?_⟩
    apply Y0;refine Cf ?_;apply Ys;apply AWp.seq;apply AWp.seq
    refine AWp.dr' (DrawOk.self (by kernel_rfl)) [[],[],[(54,1)],[(53,0),(55,2)],[(56,3)],[],[],[(58,5),(59,6)],[(60,7)],[(61,8)],[],[],[(63,10),(64,11)],[(65,12)],[(66,13)],[(62,9),(67,14)],[(68,15)],[(57,4),(69,16)]] [[],[],[1],[0,1,2],[0,1,2,3],[0,1,2,3,4],[0,1,2,3,4],[0,1,2,3,4,5,6],[0,1,2,3,4,5,6,7],[0,1,2,3,4,5,6,7,8],[0,1,2,3,4],[0,1,2,3,4],[0,1,2,3,4,10,11],[0,1,2,3,4,10,11,12],[0,1,2,3,4,10,11,12,13],[0,1,2,3,4,5,6,7,8,9,10,11,12,13,14],[0,1,2,3,4,5,6,7,8,9,10,11,12,13,14,15],[0,1,2,3,4,5,6,7,8,9,10,11,12,13,14,15,16]] rfl (by kernel_rfl) (by kernel_rfl) (by kernel_rfl) ?_
    refine Xq Qz.move ?_;refine Xq Qz.move ?_;refine Xq Qz.lenN ?_;refine Xq Qz.cmpT ?_;refine Xq Qz.move ?_;refine Xs ?_;refine Xs ?_;refine Xs ?_;refine Xs ?_;refine Xs ?_;refine Xs ?_;refine Xs ?_;refine Xs ?_;refine Xs ?_;refine Xs ?_;refine Xs ?_;refine Xs ?_;refine Xq Qz.pickT ?_;refine ⟨_,rfl,?_⟩
    apply Y0;refine Ct ?_;apply Y1;refine Wm ?_;refine Wm ?_;refine Wm ?_;refine Wq Qz.indexN ?_;refine Wq Qz.loadEf ?_;refine Wq (Bq.slice1 (ao rfl) (tab_of rfl) (tab_of rfl) rfl rfl rfl rfl rfl) ?_;(refine Ap ?_);refine Wa ?_;apply Y0;apply Y1;refine Wm ?_;refine Wq Qz.succ ?_;refine Wa ?_;apply Y0;apply AWp.exit;apply AThen.exit;apply ABlock.hit
    refine ALoop.next ((P.length - i)+(Q.length - (k+1))) (by omega) ⟨i,k+1,R ++ [tAt Q k],by omega,by omega,?_,by simp;omega,rfl,rfl⟩ ?_
    ·rw [hdQ,hp,nil_mrg] at heq
     rw [← heq,hp,nil_mrg];simp
    ·exact AS.le_of (by refine Yd ?_;refine Yd ?_;refine FrLe.cons rfl (AVle.own rfl) ?_;refine Yd ?_;refine Yd ?_;exact FrLe.nil) (by refine HpLe.cons (OwLe.row (map_snoc tmC R (tAt Q k))) ?_;exact HpLe.nil)
   ·apply AWp.seq;apply Y1;refine Wm ?_;refine Wm ?_;refine Wq Qz.lenN ?_;refine Wq Qz.cmpF ?_;refine Wm ?_;refine Wg Qz.move ?_;refine Wg Qz.move ?_;refine Wg Qz.lenN ?_;refine Wg Qz.cmpF ?_;refine Wq Qz.pickF ?_;apply Y0;refine Cf ?_;apply AWp.exit;apply AThen.exit;apply ALoop.exit;apply ABlock.hit;apply Yn;apply Y1;refine Wm ?_;refine Wa ?_;apply Y0;apply AWp.ret
    have hq:Q.drop k = []:=List.drop_eq_nil_of_le (by omega)
    exact Fin.ret (Rets.of1 (ResV.tmp rfl rfl) (D.le.of_eq (by rw [← heq,hp,hq,nil_mrg,List.append_nil];rfl)))
theorem RTimes0_abs (c : Rat) (m:Nat→Int) (P:List Tm) (hc:c = 0):Abs Tryz.prog 73 [agD (ratC c),agD (monC m),polD P] (tupD [polD [],ex (.int .i64 0)]):=by
 have hs:=num_sign0.2 hc
 refine Ab Tryz.func73 fun s0=>?_
 rw [Tryz.ntmps73]
 apply Y1;refine Bx ?_;refine Bx ?_;refine Wa ?_;refine Wa ?_;apply Y0;apply Y1;refine AWs.b0 (tab_of rfl) (tab_of rfl) rfl rfl rfl rfl rfl ?_;refine Wa ?_;apply Y0;apply AWp.seq;apply Y1;refine Wq Qz.ldD ?_;refine Wq (Qz.call (RSign_abs c)) ?_;refine Wq Qz.cmpT ?_;apply Y0;refine Ct ?_;apply Y1;refine Wa ?_;refine Wa ?_;apply Y0;apply AWp.ret;apply AThen.ret
 exact Fin.ret (Rets.of2 (ResV.tmp rfl rfl) (ResV.tmp rfl rfl) (D.le.tup2 (D.le_nilP) (D.le.refl _)))
theorem RTimes_abs (c : Rat) (m:Nat→Int) (P:List Tm) (N M:Nat) (hc:c ≠ 0) (hcs:RSz c N) (hm:In8 m 0 65535) (hP:PSz P M) (hPi:PIn P 0 65535) (hmP:∀ t∈P,In8 (add8 m t.m) 0 65535) (hn:P.length≤100000) (hNM:N+M≤4398046511103):Abs Tryz.prog 73 [agD (ratC c),agD (monC m),polD P] (tupD [polD (tms c m P),ex (.int .i64 0)]):=by
 have hs:c.num.sign ≠ 0:=fun e=>hc (num_sign0.1 e)
 refine Ab Tryz.func73 fun s0=>?_
 rw [Tryz.ntmps73]
 apply Y1;refine Bx ?_;refine Bx ?_;refine Wa ?_;refine Wa ?_;apply Y0;apply Y1;refine AWs.b0 (tab_of rfl) (tab_of rfl) rfl rfl rfl rfl rfl ?_;refine Wa ?_;apply Y0;apply AWp.seq;apply Y1;refine Wq Qz.ldD ?_;refine Wq (Qz.call (RSign_abs c)) ?_;refine Wq Qz.cmpF ?_;apply Y0;refine Cf ?_;apply Ys;apply AWp.seq;apply Y1;refine Wa ?_;apply Y0;apply AWp.block
 refine AWp.loop (fun mz σ=>∃ k,k≤P.length∧mz = P.length - k∧σ = ⟨[(2,.d (polD P)),(3,.ptr 0 0),(4,.ptr 1 0),(8,.own 2),(9,.d (ex (.int .i64 (k:Nat))))],[.var 54 ((ratC c).map .d),.var 70 ((monC m).map .d),.row 72 12 ((tms c m (P.take k)).map tmC)]⟩) ?le ⟨0,by omega,rfl,rfl⟩ ?round
 case le=>exact AS.le_of (by refine Yd ?_;refine Yp ?_;refine Yp ?_;refine FrLe.cons rfl (AVle.own rfl) ?_;refine Yd ?_;exact FrLe.nil) (by apply Yv;apply Yv;apply Yr;exact HpLe.nil)
 case round =>
  rintro mz _ ⟨k,hk,rfl,rfl⟩
  by_cases hlt:k<P.length
  ·have ht:=tAt_mem hlt
   have htk:=take_tAt hlt
   apply AWp.seq;apply Y1;refine Wm ?_;refine Wm ?_;refine Wq Qz.lenN ?_;refine Wq Qz.cmpT ?_;apply Y0;refine Ct ?_;apply Ys;apply AWp.seq;apply AWp.block;apply AWp.seq
   refine AWp.dr' (DrawOk.float (e:=9) (by kernel_rfl) (K4 (K4 (AddE.keep (AddE.keep (AddE.keep (AddE.add (AddE.keep AddE.nil))))))) (by kernel_rfl)) [[],[],[],[(24,1),(25,2)],[(26,3)],[(27,4)],[(23,0),(28,5)],[(29,6)],[(22,7)],[(22,7)],[]] [[],[],[],[1,2],[1,2,3],[1,2,3,4],[0,1,2,3,4,5],[0,1,2,3,4,5,6],[0,1,2,3,4,5,6,7],[0,1,2,3,4,5,6,7],[]] rfl (by kernel_rfl) (by kernel_rfl) (by kernel_rfl) ?_
   refine Xq Qz.ldD ?_;refine Xq Qz.move ?_;refine Xq Qz.move ?_;refine Xq Qz.indexN ?_;refine Xq Qz.fldE ?_;refine Xq Qz.loadEf ?_;refine Xq (Qz.call (RmMul_abs m (tAt P k).m hm (hPi _ ht) (hmP _ ht))) ?_;refine Xq Qz.move ?_;refine Xq Qz.ext ?_;refine Xq Qz.ext ?_;refine Xn ?_;refine ⟨_,rfl,?_⟩
   refine Sf ?_;refine Wa ?_;apply AWl.nil;apply OnlyN.mk';apply Yn;apply AWp.seq;apply Y1;refine Wm ?_;refine Wq Qz.cmpF ?_;apply Y0;refine Cf ?_;apply Ys
   refine AWp.dr' (DrawOk.self (by kernel_rfl)) [[],[],[],[],[(36,2),(37,3)],[(38,4)],[(39,5)],[(35,1),(40,6)],[],[(41,7),(42,8)],[(43,9)]] [[],[],[],[],[2,3],[2,3,4],[2,3,4,5],[1,2,3,4,5,6],[],[1,2,3,4,5,6,7,8],[1,2,3,4,5,6,7,8,9]] rfl (by kernel_rfl) (by kernel_rfl) (by kernel_rfl) ?_
   refine Xq Qz.move ?_;refine Xq Qz.ldD ?_;refine Xq Qz.move ?_;refine Xq Qz.move ?_;refine Xq Qz.indexN ?_;refine Xq Qz.fldE ?_;refine Xq Qz.ldE ?_;refine Xq (Qz.call (RMul_abs c (tAt P k).c N M hcs (hP _ ht) hNM)) ?_;refine Xq Qz.ldD ?_;(refine Hq rfl ?_;refine Bq.build (tab_of rfl) rfl rfl rfl ?_;(repeat ((first | refine ⟨_,PartOk.ag (ah rfl),?_⟩ | refine ⟨_,PartOk.one rfl (by first | exact One.ex_ rfl | exact One.sl | exact One.ep),?_⟩);refine ⟨_,rfl,?_⟩));refine ⟨_,rfl,?_⟩;refine ⟨_,rfl,?_⟩);(refine Xq (Bq.slice1 (ah rfl) (tab_of rfl) (tab_of rfl) rfl rfl rfl rfl rfl) ?_);refine ⟨_,rfl,?_⟩
   (refine Ap ?_);refine Wa ?_;apply AWl.nil;apply ABlock.normal;apply Yn;apply AWp.region;refine Wm ?_;refine Wq Qz.succ ?_;refine Wa ?_;apply AWl.nil
   refine ALoop.next (P.length - (k+1)) (by omega) ⟨k+1,by omega,rfl,rfl⟩ ?_
   exact AS.le_of (by refine Yd ?_;refine Yp ?_;refine Yp ?_;refine FrLe.cons rfl (AVle.own rfl) ?_;refine Yd ?_;exact FrLe.nil) (by apply Yv;apply Yv;(refine HpLe.cons (OwLe.row ((map_snoc tmC _ ⟨c*(tAt P k).c,add8 m (tAt P k).m⟩).trans (by rw [← htk];simp [tms]))) ?_);exact HpLe.nil)
  ·obtain rfl : k = P.length := by omega
   apply AWp.seq;apply Y1;refine Wm ?_;refine Wm ?_;refine Wq Qz.lenN ?_;refine Wq Qz.cmpF ?_;apply Y0;refine Cf ?_;apply AWp.exit;apply AThen.exit;apply ALoop.exit;apply ABlock.hit;apply Yn;apply Y1;refine Wm ?_;refine Wa ?_;refine Wa ?_;apply Y0;apply AWp.ret
   exact Fin.ret (Rets.of2 (ResV.tmp rfl rfl) (ResV.tmp rfl rfl) (D.le.tup2 (D.le.of_eq (by rw [List.take_length];rfl)) (D.le.refl _)))
def sclL (c : Rat) (P:List Tm):List Tm:=if c = 0 then [] else tms c (fun _=>0) P
theorem RScale_abs (c : Rat) (P:List Tm) (N M:Nat) (hcs:RSz c N) (hP:PSz P M) (hPi:PIn P 0 65535) (hn:P.length≤100000) (hNM:N+M≤4398046511103):Abs Tryz.prog 30 [agD (ratC c),polD P] (polD (sclL c P)):=by
 by_cases hc:c = 0
 ·refine Ab Tryz.func30 fun s0 => ?_
  rw [Tryz.ntmps30]
  apply Y1;refine Bx ?_;refine Wa ?_;apply Y0;apply Y1;refine Wq Qz.ldD ?_;(refine AWs.q rfl rfl ?_;(refine Bq.arr (tab_of rfl) (tab_of rfl) rfl rfl ?_;(repeat ((first | refine ⟨_,PartOk.ag (ao rfl),?_⟩ | refine ⟨_,PartOk.one rfl (by first | exact One.ex_ rfl | exact One.sl | exact One.ep),?_⟩);refine ⟨_,rfl,?_⟩));refine ⟨_,rfl,?_⟩));refine Wm ?_;refine Wq (Qz.call (RTimes0_abs c (fun _=>0) P hc)) ?_;refine Wm ?_;refine Wq Qz.ext ?_;refine Wq Qz.ext ?_;refine Wa ?_;refine Wa ?_;apply Y0;apply Y1;refine Wm ?_;refine Wa ?_;apply Y0;apply AWp.ret
  exact Fin.ret (Rets.of1 (ResV.tmp rfl rfl) (D.le_pol (by rw [sclL,if_pos hc])))
 ·refine Ab Tryz.func30 fun s0 => ?_
  rw [Tryz.ntmps30]
  apply Y1;refine Bx ?_;refine Wa ?_;apply Y0;apply Y1;refine Wq Qz.ldD ?_;(refine AWs.q rfl rfl ?_;(refine Bq.arr (tab_of rfl) (tab_of rfl) rfl rfl ?_;(repeat ((first | refine ⟨_,PartOk.ag (ao rfl),?_⟩ | refine ⟨_,PartOk.one rfl (by first | exact One.ex_ rfl | exact One.sl | exact One.ep),?_⟩);refine ⟨_,rfl,?_⟩));refine ⟨_,rfl,?_⟩));refine Wm ?_;refine Wq (Qz.call (RTimes_abs c (fun _=>0) P N M hc hcs In8.zero hP hPi (fun t ht=>by rw [zero_add8];exact hPi t ht) hn hNM)) ?_;refine Wm ?_;refine Wq Qz.ext ?_;refine Wq Qz.ext ?_;refine Wa ?_;refine Wa ?_;apply Y0;apply Y1;refine Wm ?_;refine Wa ?_;apply Y0;apply AWp.ret
  exact Fin.ret (Rets.of1 (ResV.tmp rfl rfl) (D.le_pol (by rw [sclL,if_neg hc])))
theorem tms_psz {c : Rat} {m:Nat→Int} {P:List Tm} {N M:Nat} (hc:RSz c N) (hP:PSz P M):PSz (tms c m P) (N+M):=fun t ht=>by
 obtain ⟨s,hs,rfl⟩:=List.mem_map.1 ht
 exact hc.mul (hP s hs)
theorem sclL_psz {c : Rat} {P:List Tm} {N M:Nat} (hc:RSz c N) (hP:PSz P M):PSz (sclL c P) (N+M):=by
 unfold sclL
 split
 ·intro t ht;cases ht
 ·exact tms_psz hc hP
theorem sclL_length (c : Rat) (P:List Tm):(sclL c P).length≤P.length:=by
 unfold sclL
 split <;> simp
theorem rsz_sm {x : Int} (h0:-1000≤x) (h1:x≤1000):RSz ((x:Int):Rat) 1:=by
 refine ⟨?_,?_⟩
 ·show (digs (x:Int).natAbs).length≤1
  exact len_of_lt (by simp only [BB,Nat.pow_one];omega)
 ·show (digs 1).length≤1
  exact len_of_lt (by simp only [BB,Nat.pow_one];omega)
theorem RSub_abs (P Q:List Tm) (N M:Nat) (hP:PSz P N) (hQ:PSz Q M) (hQi:PIn Q 0 65535) (hNM:N+M+2≤4398046511103) (hn:P.length+Q.length≤100000):Abs Tryz.prog 38 [polD P,polD Q] (polD (mrg P (sclL (-1:Int) Q))):=by
 have h1:RSz ((-1:Int):Rat) 1:=rsz_sm (by omega) (by omega)
 have hl:=sclL_length (-1:Int) Q
 refine Ab Tryz.func38 fun s0=>?_
 rw [Tryz.ntmps38]
 apply Y1;refine Wa ?_;apply Y0;apply Y1;refine Wm ?_;refine Wq (Qz.call (RWhole_abs (-1) (by omega) (by omega))) ?_;refine Wm ?_;refine Wq (Qz.call (RScale_abs (-1:Int) Q 1 M h1 hQ hQi (by omega) (by omega))) ?_;refine Wq (Qz.call (RAdd_pol P (sclL (-1:Int) Q) N (1+M) hP (sclL_psz h1 hQ) (by omega) (by omega))) ?_;refine Wa ?_;apply Y0;apply AWp.ret
 exact Yf
end Go.Proofs.YtnhgojfjmhjokaaGreat
