/- Part 17 of the proof of polynomialLimits_holds. No condition. -/
import Derived.Test.YteicdddphdomkaaGreatLi2
import Derived.Test.YteicdddphdomkaaGreatLi3
import Derived.Test.YteicdddphdomkaaGreatLi9
import Derived.Test.YteicdddphdomkaaGreatLi14
import Derived.Test.YteicdddphdomkaaGreatLi15
import Derived.Test.YteicdddphdomkaaGreatLi16
set_option linter.unusedSimpArgs false
set_option linter.unusedVariables false
set_option maxRecDepth 100000
set_option maxHeartbeats 1000000
namespace Go.Proofs.YteicdddphdomkaaGreat
open Go.RowKit
theorem callFunc_run {P : Program} {f : FuncId} {fn : Func} (hf : P.funcs[f]? = some fn) (hn : (fn.name == "runtime.NumGoroutine") = false) (hb : fn.body.isNone = false) (args : Array Value) (w : World) : (callFunc f args).run P w = .ok (.enter f args) w := by
 have:(program).run P w = .ok P w:=rfl
 have hn' : ¬ fn.name = "runtime.NumGoroutine" := by simpa using hn
 have hb':¬ fn.body = none:=fun e=>by rw [e] at hb;cases hb
 simp [callFunc,this,hf,hn',hb']
theorem Abs.of_old {P : Program} {f:FuncId} {ds:List D} {r:D} (hcf:∀ args w,(callFunc f args).run P w = .ok (.enter f args) w) (h:∀ (s:GS) (vs:List Value),s.Ok→vs.length = ds.length→(∀ k,k<ds.length→(dAt ds k).rel s (vs.getD k undef)) →
  Calls P f vs.toArray s.w fun e w'=>∃ v,e = .returned v∧Ext s.w w'∧∀ s':GS,s'.w = w'→s'.Ok→(∀ b k,s.w.heap.size≤b→b<w'.heap.size→s'.S b k)→GS.Le s s'→r.rel s' v):Abs P f ds r:=by
 refine ⟨hcf,fun s vs hok hl hv=>(h s vs hok hl hv).mono fun e w' ⟨v,he,hE,hr⟩=>⟨v,he,s.grown w',rfl,GS.le_grown hE,?_⟩⟩
 exact hr _ rfl ((GS.le_grown hE).ok hok) (fun b k h1 h2=>.inr ⟨h1,h2⟩) (GS.le_grown hE)
theorem vs1 {vs : List Value} (h:vs.length = 1):vs = [vs.getD 0 undef]:=by
 match vs,h with
 | [a],_=>rfl
theorem vs2 {vs : List Value} (h:vs.length = 2):vs = [vs.getD 0 undef,vs.getD 1 undef]:=by
 match vs,h with
 | [a,b],_=>rfl
theorem vs3 {vs : List Value} (h:vs.length = 3):vs = [vs.getD 0 undef,vs.getD 1 undef,vs.getD 2 undef]:=by
 match vs,h with
 | [a,b,c],_=>rfl
def wD (l : List Nat):D:=⟨fun s v=>(slD 137 1 (l.map fun x=>[ex (.int .u32 (x:Nat))])).rel s v∧Small l,fun h hc=>⟨(slD _ _ _).st h.1 hc,h.2⟩⟩
theorem wD_words {s : GS} {v:Value} {l:List Nat} (h:(wD l).rel s v):Words s.w v l:=by
 obtain ⟨⟨A,c,h1,h2,h3,h4⟩,hs⟩:=h
 simp only [List.length_map] at h1 h2 h4
 refine ⟨A,c,h1,h2,h3,hs,fun h0=>?_⟩
 obtain ⟨b,o,h5,h6⟩:=h4 h0
 obtain ⟨_,cs,fz,h7,h8⟩:=h6 0 h0
 refine ⟨b,o,cs,fz,h5,h7,fun i hi=>?_⟩
 obtain ⟨h9,cs',fz',h10,h11⟩:=h6 i hi
 rw [h7] at h10
 cases h10
 obtain ⟨_,u,h12,_,h13⟩:=h11 0 (by rw [h9];omega)
 have e:dAt ((l.map fun x=>[ex (.int .u32 (x:Nat))]).getD i []) 0 = ex (.int .u32 (l[i]:Nat)):=by simp [dAt,hi]
 rw [e] at h13
 have h13:u = _:=h13
 rw [Nat.mul_one,Nat.add_zero] at h12
 rw [h12,h13]
theorem words_wD {s : GS} {v:Value} {l:List Nat} (hok:s.Ok) (h:Words s.w v l):(wD l).rel s v:=by
 obtain ⟨A,c,h1,h2,h3,hs,h4⟩:=h
 refine ⟨⟨A,c,by rw [List.length_map];exact h1,by rw [List.length_map];exact h2,h3,fun h0=>?_⟩,hs⟩
 rw [List.length_map] at h0
 obtain ⟨b,o,cs,fz,h5,h6,h7⟩:=h4 h0
 refine ⟨b,o,h5,fun k hk=>?_⟩
 rw [List.length_map] at hk
 have e:(l.map fun x=>[ex (.int .u32 (x:Nat))]).getD k [] = [ex (.int .u32 (l[k]:Nat))]:=by simp [hk]
 rw [e]
 refine ⟨rfl,cs,fz,h6,fun j hj=>?_⟩
 obtain rfl:j = 0:=by simp at hj;omega
 rw [Nat.mul_one,Nat.add_zero]
 exact ⟨hok.safe b _ ⟨cs,fz,h6⟩,_,h7 k hk,rfl,rfl⟩
def intC (z : Int):List D:=[ex (.bool (decide (z<0))),wD (digs z.natAbs)]
def ratC (q : Rat):List D:=[ex (.bool (decide (q.num<0))),wD (digs q.num.natAbs),ex (.bool (decide ((q.den:Int)<0))),wD (digs (q.den:Int).natAbs)]
theorem wD_form {s : GS} {v:Value} {l:List Nat} (h:(wD l).rel s v):∃ A n c,v = .slice A n c:=by
 obtain ⟨A,c,h1,_⟩:=h.1
 exact ⟨A,_,c,h1⟩
theorem ag2 {s : GS} {v:Value} {d0 d1:D} (h:(agD [d0,d1]).rel s v):∃ u0 u1,v = .agg #[u0,u1]∧d0.rel s u0∧d1.rel s u1:=by
 obtain ⟨cs,rfl,h1,h2⟩:=h
 obtain ⟨u0,e0,_,r0⟩:=h2 0 (by simp)
 obtain ⟨u1,e1,_,r1⟩:=h2 1 (by simp)
 refine ⟨u0,u1,?_,r0,r1⟩
 congr 1
 refine Array.ext (by simpa using h1) fun i q1 q2=>?_
 simp at q2
 match i,q2 with
 | 0,_=>exact Option.some.inj ((Array.getElem?_eq_getElem q1).symm.trans e0)
 | 1,_=>exact Option.some.inj ((Array.getElem?_eq_getElem q1).symm.trans e1)
theorem ag4 {s : GS} {v:Value} {d0 d1 d2 d3:D} (h:(agD [d0,d1,d2,d3]).rel s v):∃ u0 u1 u2 u3,v = .agg #[u0,u1,u2,u3]∧d0.rel s u0∧d1.rel s u1∧d2.rel s u2∧d3.rel s u3:=by
 obtain ⟨cs,rfl,h1,h2⟩:=h
 obtain ⟨u0,e0,_,r0⟩:=h2 0 (by simp)
 obtain ⟨u1,e1,_,r1⟩:=h2 1 (by simp)
 obtain ⟨u2,e2,_,r2⟩:=h2 2 (by simp)
 obtain ⟨u3,e3,_,r3⟩:=h2 3 (by simp)
 refine ⟨u0,u1,u2,u3,?_,r0,r1,r2,r3⟩
 congr 1
 refine Array.ext (by simpa using h1) fun i q1 q2=>?_
 simp at q2
 match i,q2 with
 | 0,_=>exact Option.some.inj ((Array.getElem?_eq_getElem q1).symm.trans e0)
 | 1,_=>exact Option.some.inj ((Array.getElem?_eq_getElem q1).symm.trans e1)
 | 2,_=>exact Option.some.inj ((Array.getElem?_eq_getElem q1).symm.trans e2)
 | 3,_=>exact Option.some.inj ((Array.getElem?_eq_getElem q1).symm.trans e3)
theorem ag_ex {s : GS} {v:Value} {l:List Value} (h:(agD (l.map ex)).rel s v):v = .agg l.toArray:=by
 obtain ⟨cs,rfl,h1,h2⟩:=h
 congr 1
 refine Array.ext (by simpa using h1) fun i q1 q2=>?_
 simp at q2
 obtain ⟨u,e,_,r⟩:=h2 i (by simpa using q2)
 have e2:dAt (l.map ex) i = ex l[i]:=by simp [dAt,q2]
 rw [e2] at r
 have r:u = l[i]:=r
 rw [Array.getElem?_eq_getElem q1] at e
 rw [Option.some.inj e,r]
 simp
theorem ex_ag {s : GS} {l:List Value} (h:one1 l = true):(agD (l.map ex)).rel s (.agg l.toArray):=by
 refine ⟨_,rfl,by simp,fun k hk=>?_⟩
 simp at hk
 refine ⟨l[k],by simp [hk],List.all_eq_true.1 h _ (by simp),?_⟩
 have e2:dAt (l.map ex) k = ex l[k]:=by simp [dAt,hk]
 rw [e2]
 rfl
theorem ratC_open {s : GS} {v:Value} {q:Rat} (h:(agD (ratC q)).rel s v):∃ (b b':Bool) (A A':Option Addr) (n c n' c':Nat),v = .agg #[.bool b,.slice A n c,.bool b',.slice A' n' c']∧IsRat s.w (.bool b) (.slice A n c) (.bool b') (.slice A' n' c') q:=by
 obtain ⟨u0,u1,u2,u3,rfl,h0,h1,h2,h3⟩:=ag4 h
 obtain rfl:u0 = _:=h0
 obtain rfl:u2 = _:=h2
 obtain ⟨A,n,c,rfl⟩:=wD_form h1
 obtain ⟨A',n',c',rfl⟩:=wD_form h3
 exact ⟨_,_,A,A',n,c,n',c',rfl,⟨rfl,wD_words h1⟩,⟨rfl,wD_words h3⟩⟩
theorem ratC_mk {s : GS} {q:Rat} {b b':Bool} {A A':Option Addr} {n c n' c':Nat} (hok:s.Ok) (h:IsRat s.w (.bool b) (.slice A n c) (.bool b') (.slice A' n' c') q):(agD (ratC q)).rel s (.agg #[.bool b,.slice A n c,.bool b',.slice A' n' c']):=by
 obtain ⟨⟨h1,h2⟩,h3,h4⟩:=h
 refine ⟨_,rfl,rfl,fun k hk=>?_⟩
 have hk:k<4:=hk
 match k,hk with
 | 0,_=>exact ⟨_,rfl,rfl,h1⟩
 | 1,_=>exact ⟨_,rfl,rfl,words_wD hok h2⟩
 | 2,_=>exact ⟨_,rfl,rfl,h3⟩
 | 3,_=>exact ⟨_,rfl,rfl,words_wD hok h4⟩
theorem intC_open {s : GS} {v:Value} {z:Int} (h:(agD (intC z)).rel s v):∃ (b:Bool) (A:Option Addr) (n c:Nat),v = .agg #[.bool b,.slice A n c]∧IsInt s.w (.bool b) (.slice A n c) z:=by
 obtain ⟨u0,u1,rfl,h0,h1⟩:=ag2 h
 obtain rfl:u0 = _:=h0
 obtain ⟨A,n,c,rfl⟩:=wD_form h1
 exact ⟨_,A,n,c,rfl,rfl,wD_words h1⟩
theorem intC_mk {s : GS} {z:Int} {b:Bool} {A:Option Addr} {n c:Nat} (hok:s.Ok) (h:IsInt s.w (.bool b) (.slice A n c) z):(agD (intC z)).rel s (.agg #[.bool b,.slice A n c]):=by
 obtain ⟨h1,h2⟩:=h
 refine ⟨_,rfl,rfl,fun k hk=>?_⟩
 have hk:k<2:=hk
 match k,hk with
 | 0,_=>exact ⟨_,rfl,rfl,h1⟩
 | 1,_=>exact ⟨_,rfl,rfl,words_wD hok h2⟩
def monC (a : Nat→Int):List D:=[ex (.int .i64 (a 0)),ex (.int .i64 (a 1)),ex (.int .i64 (a 2)),ex (.int .i64 (a 3)),ex (.int .i64 (a 4)),ex (.int .i64 (a 5)),ex (.int .i64 (a 6)),ex (.int .i64 (a 7))]
theorem monC_open {s : GS} {v:Value} {a:Nat→Int} (h:(agD (monC a)).rel s v):v = .agg (c8 a):=ag_ex (l:=(c8 a).toList) h
theorem monC_mk {s : GS} (a:Nat→Int):(agD (monC a)).rel s (.agg (c8 a)):=ex_ag (l:=(c8 a).toList) rfl
theorem monC_at {a : Nat→Int} {i:Nat} (h:i<8):dAt (monC a) i = ex (.int .i64 (a i)):=by
 match i,h with
 | 0,_=>rfl
 | 1,_=>rfl
 | 2,_=>rfl
 | 3,_=>rfl
 | 4,_=>rfl
 | 5,_=>rfl
 | 6,_=>rfl
 | 7,_=>rfl
def tmC (t : Tm):List D:=ratC t.c ++ monC t.m
theorem ratC_length (q : Rat):(ratC q).length = 4:=rfl
theorem monC_length (a : Nat→Int):(monC a).length = 8:=rfl
theorem tmC_length (t : Tm):(tmC t).length = 12:=rfl
theorem tmC_drop (t : Tm):(tmC t).drop 4 = monC t.m:=rfl
theorem tmV_cells {s : GS} {cs:Array Value} {t:Tm} (hok:s.Ok) (h:TmV s.w cs t):∀ k,k<12→∃ u,cs[k]? = some u∧u.oneCell' = true∧(dAt (tmC t) k).rel s u:=by
 obtain ⟨b,b',A,A',n,c,n',c',rfl,⟨h1,h2⟩,h3,h4⟩:=h
 intro k hk
 match k,hk with
 | 0,_=>exact ⟨_,rfl,rfl,h1⟩
 | 1,_=>exact ⟨_,rfl,rfl,words_wD hok h2⟩
 | 2,_=>exact ⟨_,rfl,rfl,h3⟩
 | 3,_=>exact ⟨_,rfl,rfl,words_wD hok h4⟩
 | 4,_=>exact ⟨_,rfl,rfl,rfl⟩
 | 5,_=>exact ⟨_,rfl,rfl,rfl⟩
 | 6,_=>exact ⟨_,rfl,rfl,rfl⟩
 | 7,_=>exact ⟨_,rfl,rfl,rfl⟩
 | 8,_=>exact ⟨_,rfl,rfl,rfl⟩
 | 9,_=>exact ⟨_,rfl,rfl,rfl⟩
 | 10,_=>exact ⟨_,rfl,rfl,rfl⟩
 | 11,_=>exact ⟨_,rfl,rfl,rfl⟩
theorem cells_tmV {s : GS} {cs:Array Value} {t:Tm} (hsz:cs.size = 12) (h:∀ k,k<12→∃ u,cs[k]? = some u∧u.oneCell' = true∧(dAt (tmC t) k).rel s u):TmV s.w cs t:=by
 obtain ⟨u0,e0,_,r0⟩:=h 0 (by omega)
 obtain ⟨u1,e1,_,r1⟩:=h 1 (by omega)
 obtain ⟨u2,e2,_,r2⟩:=h 2 (by omega)
 obtain ⟨u3,e3,_,r3⟩:=h 3 (by omega)
 obtain rfl:u0 = _:=r0
 obtain rfl:u2 = _:=r2
 obtain ⟨A,n,c,rfl⟩:=wD_form r1
 obtain ⟨A',n',c',rfl⟩:=wD_form r3
 have hm:∀ i,i<8→cs[4+i]? = some (.int .i64 (t.m i)):=fun i hi=>by
  obtain ⟨u,e,_,r⟩:=h (4+i) (by omega)
  have e2:dAt (tmC t) (4+i) = ex (.int .i64 (t.m i)):=by rw [← monC_at hi,← tmC_drop,dAt_drop]
  rw [e2] at r
  rw [e]
  exact congrArg some r
 refine ⟨_,_,A,A',n,c,n',c',?_,⟨rfl,wD_words r1⟩,rfl,wD_words r3⟩
 refine Array.ext (by rw [hsz];rfl) fun i q1 q2=>?_
 rw [hsz] at q1
 refine Option.some.inj ?_
 rw [← Array.getElem?_eq_getElem,← Array.getElem?_eq_getElem]
 match i,q1 with
 | 0,_=>exact e0
 | 1,_=>exact e1
 | 2,_=>exact e2
 | 3,_=>exact e3
 | 4,_=>exact hm 0 (by omega)
 | 5,_=>exact hm 1 (by omega)
 | 6,_=>exact hm 2 (by omega)
 | 7,_=>exact hm 3 (by omega)
 | 8,_=>exact hm 4 (by omega)
 | 9,_=>exact hm 5 (by omega)
 | 10,_=>exact hm 6 (by omega)
 | 11,_=>exact hm 7 (by omega)
def polD (P : List Tm):D:=slD 33 12 (P.map tmC)
theorem polD_row {P : List Tm} {k:Nat} (h:k<P.length):(P.map tmC).getD k [] = tmC (tAt P k):=by simp [tAt,List.getD_eq_getElem?_getD,List.getElem?_eq_getElem h]
theorem polD_open {s : GS} {v:Value} {P:List Tm} (h:(polD P).rel s v):PolAt s.w v P:=by
 obtain ⟨A,c,h1,h2,h3,h4⟩:=h
 simp only [List.length_map] at h1 h2 h4
 refine ⟨A,c,h1,h2,h3,fun h0=>?_⟩
 obtain ⟨b,o,h5,h6⟩:=h4 h0
 obtain ⟨_,cs,fz,h7,h8⟩:=h6 0 h0
 refine ⟨b,o,cs,fz,h5,h7,fun k hk=>?_⟩
 obtain ⟨h9,cs',fz',h10,h11⟩:=h6 k hk
 rw [h7] at h10
 cases h10
 rw [polD_row hk] at h11
 refine ⟨cs.extract (o+k*12) (o+k*12+12),cells_tmV (s:=s) ?_ fun j hj=>?_,fun j hj=>?_⟩
 ·obtain ⟨_, u, e, _⟩ := h11 11 (by simp [tmC_length])
  have:=(Array.getElem?_eq_some_iff.1 e).1
  simp
  omega
 ·obtain ⟨_,u,e,r1,r2⟩:=h11 j hj
  exact ⟨u,by rw [Array.getElem?_extract,if_pos (by have:=(Array.getElem?_eq_some_iff.1 e).1;obtain ⟨_,u',e',_⟩:=h11 11 (by simp [tmC_length]);have:=(Array.getElem?_eq_some_iff.1 e').1;omega)];exact e,r1,r2⟩
 ·obtain ⟨_, u', e', _⟩ := h11 11 (by simp [tmC_length])
  have:=(Array.getElem?_eq_some_iff.1 e').1
  rw [Array.getElem?_extract,if_pos (by omega)]
theorem polD_mk {s : GS} {v:Value} {P:List Tm} (hok:s.Ok) (h:PolAt s.w v P) (hS:∀ b o,v = v→(∃ n c,v = .slice (some ⟨b,o,none⟩) n c)→∀ k,s.S b k):(polD P).rel s v:=by
 obtain ⟨A,c,h1,h2,h3,h4⟩:=h
 refine ⟨A,c,by rw [List.length_map];exact h1,by rw [List.length_map];exact h2,h3,fun h0=>?_⟩
 rw [List.length_map] at h0
 obtain ⟨b,o,cs,fz,h5,h6,h7⟩:=h4 h0
 subst h5
 refine ⟨b,o,rfl,fun k hk=>?_⟩
 rw [List.length_map] at hk
 rw [polD_row hk]
 refine ⟨rfl,cs,fz,h6,fun j hj=>⟨hS b o rfl ⟨_,_,h1⟩ _,?_⟩⟩
 obtain ⟨ts,h8,h9⟩:=h7 k hk
 obtain ⟨u,h10,h11,h12⟩:=tmV_cells hok h8 j hj
 exact ⟨u,(h9 j hj).trans h10,h11,h12⟩
theorem polD_own {w' : World} {v:Value} {P:List Tm} {W:Nat} (h:OwnP W w' v P) {s':GS} (hw:s'.w = w') (hok:s'.Ok) (hS:∀ b k,W≤b→b<w'.heap.size→s'.S b k):(polD P).rel s' v:=by
 subst hw
 refine polD_mk hok h.pol fun b o _ ⟨n,c,hv⟩ k=>?_
 obtain ⟨cl,h1,⟨h2,h3⟩,h4⟩:=h
 rcases h3 with ⟨e,_⟩ | ⟨g,cap,cur,e,h5,h6,_⟩
 ·rw [e] at hv;cases hv
 ·rw [e] at hv
  cases hv
  exact hS _ k h5 (lt_of_heap h6)
theorem monC_eqv {a b:Nat→Int} (h:Eqv a b):monC a = monC b:=by unfold monC;rw [h 0 (by omega),h 1 (by omega),h 2 (by omega),h 3 (by omega),h 4 (by omega),h 5 (by omega),h 6 (by omega),h 7 (by omega)]
theorem tmC_eq {s t:Tm} (h:s.c = t.c) (h':Eqv s.m t.m):tmC s = tmC t:=by unfold tmC;rw [h,monC_eqv h']
theorem polD_same {P Q:List Tm} (h:SameL P Q):polD P = polD Q:=by
 unfold polD
 congr 1
 induction P generalizing Q with
 | nil=>cases Q with
  | nil=>rfl
  | cons=>exact h.elim
 | cons s P ih=>cases Q with
  | nil=>exact h.elim
  | cons t Q=>rw [List.map_cons,List.map_cons,tmC_eq h.1 h.2.1,ih h.2.2]
theorem tup2 {s : GS} {u v:Value} {x y:D} (hx:x.rel s u) (hy:y.rel s v):(tupD [x,y]).rel s (.tuple #[u,v]):=⟨_,rfl,rfl,fun k hk=>by
 match k,hk with
 | 0,_=>exact ⟨_,rfl,hx⟩
 | 1,_=>exact ⟨_,rfl,hy⟩
 | k+2,hk=>exact absurd hk (by simp)⟩
def ordD (R : List (Nat→Int)):D:=slD 30 8 (R.map monC)
theorem rows_row {R : List (Nat→Int)} {k:Nat} (h:k<R.length):(R.map monC).getD k [] = monC (rowAt R k):=by simp [rowAt,List.getD_eq_getElem?_getD,List.getElem?_eq_getElem h]
theorem rowsD_open {T : TypeId} {s:GS} {v:Value} {R:List (Nat→Int)} (h:(slD T 8 (R.map monC)).rel s v):RowsAt .i64 T s.w v R:=by
 obtain ⟨A,c,h1,h2,h3,h4⟩:=h
 simp only [List.length_map] at h1 h2 h4
 refine ⟨A,c,h1,h2,h3,fun h0=>?_⟩
 obtain ⟨b,o,h5,h6⟩:=h4 h0
 obtain ⟨_,cs,fz,h7,h8⟩:=h6 0 h0
 refine ⟨b,o,cs,fz,h5,h7,fun k j hk hj=>?_⟩
 obtain ⟨h9,cs',fz',h10,h11⟩:=h6 k hk
 rw [h7] at h10
 cases h10
 rw [rows_row hk] at h11
 obtain ⟨_,u,e,_,r⟩:=h11 j hj
 rw [monC_at hj] at r
 have r:u = _:=r
 rw [e,r]
theorem ordD_open {s : GS} {v:Value} {R:List (Nat→Int)} (h:(ordD R).rel s v):RowsAt .i64 30 s.w v R:=rowsD_open h
theorem rowsD_mk {T : TypeId} {s:GS} {v:Value} {R:List (Nat→Int)} (h:RowsAt .i64 T s.w v R) (hS:∀ b o,(∃ n c,v = .slice (some ⟨b,o,none⟩) n c)→∀ k,s.S b k):(slD T 8 (R.map monC)).rel s v:=by
 obtain ⟨A,c,h1,h2,h3,h4⟩:=h
 refine ⟨A,c,by rw [List.length_map];exact h1,by rw [List.length_map];exact h2,h3,fun h0=>?_⟩
 rw [List.length_map] at h0
 obtain ⟨b,o,cs,fz,h5,h6,h7⟩:=h4 h0
 subst h5
 refine ⟨b,o,rfl,fun k hk=>?_⟩
 rw [List.length_map] at hk
 rw [rows_row hk]
 refine ⟨rfl,cs,fz,h6,fun j hj=>⟨hS b o ⟨_,_,h1⟩ _,_,h7 k j hk hj,rfl,?_⟩⟩
 rw [monC_at hj]
 rfl
theorem ordD_own {w' : World} {v:Value} {R:List (Nat→Int)} {W:Nat} (h:OwnRows 30 W w' v R) {s':GS} (hw:s'.w = w') (hS:∀ b k,W≤b→b<w'.heap.size→s'.S b k):(ordD R).rel s' v:=by
 subst hw
 refine rowsD_mk h.rows fun b o ⟨n,c,hv⟩ k=>?_
 obtain ⟨h2,h3⟩:=h
 rcases h3 with ⟨e,_⟩ | ⟨g,cap,cur,e,h5,h6,_⟩
 ·rw [e] at hv;cases hv
 ·rw [e] at hv
  cases hv
  exact hS _ k h5 (lt_of_heap h6)
theorem Mul_abs (p q:Rat) (N M:Nat) (hp:RSz p N) (hq:RSz q M) (hN:N+M≤4398046511104):Abs Tryz.prog 76 [agD (ratC p),agD (ratC q)] (agD (ratC (p*q))):=by
 refine Abs.of_old (callFunc_run Tryz.func76 (by kernel_rfl) (by kernel_rfl)) fun s vs hok hl hv=>?_
 rw [vs2 hl]
 obtain ⟨x0,x0',X0,X0',n0,c0,n0',c0',e0,h0⟩:=ratC_open (hv 0 (by simp))
 obtain ⟨x1,x1',X1,X1',n1,c1,n1',c1',e1,h1⟩:=ratC_open (hv 1 (by simp))
 rw [e0,e1]
 exact (Mul_any x0 x0' X0 X0' n0 c0 n0' c0' x1 x1' X1 X1' n1 c1 n1' c1' p q N M _ h0 h1 hp hq hN).mono fun e w' ⟨y,y',Y,Y',m,k,m',k',he,hI,hE⟩=>⟨_,he,hE,fun s' hw hok' _ _=>by subst hw;exact ratC_mk hok' hI⟩
theorem Add_abs (p q:Rat) (N M:Nat) (hp:RSz p N) (hq:RSz q M) (hN:N+M+1≤4398046511104):Abs Tryz.prog 86 [agD (ratC p),agD (ratC q)] (agD (ratC (p+q))):=by
 refine Abs.of_old (callFunc_run Tryz.func86 (by kernel_rfl) (by kernel_rfl)) fun s vs hok hl hv=>?_
 rw [vs2 hl]
 obtain ⟨x0,x0',X0,X0',n0,c0,n0',c0',e0,h0⟩:=ratC_open (hv 0 (by simp))
 obtain ⟨x1,x1',X1,X1',n1,c1,n1',c1',e1,h1⟩:=ratC_open (hv 1 (by simp))
 rw [e0,e1]
 exact (Add_any x0 x0' X0 X0' n0 c0 n0' c0' x1 x1' X1 X1' n1 c1 n1' c1' p q N M _ h0 h1 hp hq hN).mono fun e w' ⟨y,y',Y,Y',m,k,m',k',he,hI,hE⟩=>⟨_,he,hE,fun s' hw hok' _ _=>by subst hw;exact ratC_mk hok' hI⟩
theorem RMul_abs (p q:Rat) (N M:Nat) (hp:RSz p N) (hq:RSz q M) (hN:N+M≤4398046511103):Abs Tryz.prog 32 [agD (ratC p),agD (ratC q)] (agD (ratC (p*q))):=by
 refine Abs.of_old (callFunc_run Tryz.func32 (by kernel_rfl) (by kernel_rfl)) fun s vs hok hl hv=>?_
 rw [vs2 hl]
 obtain ⟨x0,x0',X0,X0',n0,c0,n0',c0',e0,h0⟩:=ratC_open (hv 0 (by simp))
 obtain ⟨x1,x1',X1,X1',n1,c1,n1',c1',e1,h1⟩:=ratC_open (hv 1 (by simp))
 rw [e0,e1]
 exact (RMul_any x0 x0' X0 X0' n0 c0 n0' c0' x1 x1' X1 X1' n1 c1 n1' c1' p q N M _ h0 h1 hp hq hN).mono fun e w' ⟨y,y',Y,Y',m,k,m',k',he,hI,hE⟩=>⟨_,he,hE,fun s' hw hok' _ _=>by subst hw;exact ratC_mk hok' hI⟩
theorem RAdd_abs (p q:Rat) (N M:Nat) (hp:RSz p N) (hq:RSz q M) (hN:N+M+1≤4398046511103):Abs Tryz.prog 31 [agD (ratC p),agD (ratC q)] (agD (ratC (p+q))):=by
 refine Abs.of_old (callFunc_run Tryz.func31 (by kernel_rfl) (by kernel_rfl)) fun s vs hok hl hv=>?_
 rw [vs2 hl]
 obtain ⟨x0,x0',X0,X0',n0,c0,n0',c0',e0,h0⟩:=ratC_open (hv 0 (by simp))
 obtain ⟨x1,x1',X1,X1',n1,c1,n1',c1',e1,h1⟩:=ratC_open (hv 1 (by simp))
 rw [e0,e1]
 exact (RAdd_any x0 x0' X0 X0' n0 c0 n0' c0' x1 x1' X1 X1' n1 c1 n1' c1' p q N M _ h0 h1 hp hq hN).mono fun e w' ⟨y,y',Y,Y',m,k,m',k',he,hI,hE⟩=>⟨_,he,hE,fun s' hw hok' _ _=>by subst hw;exact ratC_mk hok' hI⟩
theorem Neg_abs (p : Rat) (N:Nat) (hp:RSz p N) (hN:N≤4398046511104):Abs Tryz.prog 81 [agD (ratC p)] (agD (ratC (-p))):=by
 refine Abs.of_old (callFunc_run Tryz.func81 (by kernel_rfl) (by kernel_rfl)) fun s vs hok hl hv=>?_
 rw [vs1 hl]
 obtain ⟨x0,x0',X0,X0',n0,c0,n0',c0',e0,h0⟩:=ratC_open (hv 0 (by simp))
 rw [e0]
 exact (Neg_any x0 x0' X0 X0' n0 c0 n0' c0' p _ h0 (Nat.le_trans hp.1 hN)).mono fun e w' ⟨y,y',Y,Y',m,k,m',k',he,hI,hE⟩=>⟨_,he,hE,fun s' hw hok' _ _=>by subst hw;exact ratC_mk hok' hI⟩
theorem Sign_abs (p : Rat):Abs Tryz.prog 68 [agD (ratC p)] (ex (.int .i64 p.num.sign)):=by
 refine Abs.of_old (callFunc_run Tryz.func68 (by kernel_rfl) (by kernel_rfl)) fun s vs hok hl hv=>?_
 rw [vs1 hl]
 obtain ⟨x0,x0',X0,X0',n0,c0,n0',c0',e0,h0⟩:=ratC_open (hv 0 (by simp))
 rw [e0]
 exact (Sign_any x0 x0' X0 X0' n0 c0 n0' c0' p _ h0).mono fun e w' ⟨he,hE⟩=>⟨_,he,hE,fun s' hw hok' _ _=>rfl⟩
theorem RSign_abs (p : Rat):Abs Tryz.prog 71 [agD (ratC p)] (ex (.int .i64 p.num.sign)):=by
 refine Abs.of_old (callFunc_run Tryz.func71 (by kernel_rfl) (by kernel_rfl)) fun s vs hok hl hv=>?_
 rw [vs1 hl]
 obtain ⟨x0,x0',X0,X0',n0,c0,n0',c0',e0,h0⟩:=ratC_open (hv 0 (by simp))
 rw [e0]
 exact (RSign_any x0 x0' X0 X0' n0 c0 n0' c0' p _ h0).mono fun e w' ⟨he,hE⟩=>⟨_,he,hE,fun s' hw hok' _ _=>rfl⟩
theorem Whole_abs (z : Int) (h0:-9223372036854775808≤z) (h1:z≤9223372036854775807):Abs Tryz.prog 83 [ex (.int .i64 z)] (agD (ratC (z:Rat))):=by
 refine Abs.of_old (callFunc_run Tryz.func83 (by kernel_rfl) (by kernel_rfl)) fun s vs hok hl hv=>?_
 rw [vs1 hl]
 have e0:vs.getD 0 undef = .int .i64 z:=hv 0 (by simp)
 rw [e0]
 exact (Whole_any z _ h0 h1).mono fun e w' ⟨y,y',Y,Y',m,k,m',k',he,hI,hE⟩=>⟨_,he,hE,fun s' hw hok' _ _=>by subst hw;exact ratC_mk hok' hI⟩
theorem RWhole_abs (z : Int) (h0:-9223372036854775808≤z) (h1:z≤9223372036854775807):Abs Tryz.prog 23 [ex (.int .i64 z)] (agD (ratC (z:Rat))):=by
 refine Abs.of_old (callFunc_run Tryz.func23 (by kernel_rfl) (by kernel_rfl)) fun s vs hok hl hv=>?_
 rw [vs1 hl]
 have e0:vs.getD 0 undef = .int .i64 z:=hv 0 (by simp)
 rw [e0]
 exact (RWhole_any z _ h0 h1).mono fun e w' ⟨y,y',Y,Y',m,k,m',k',he,hI,hE⟩=>⟨_,he,hE,fun s' hw hok' _ _=>by subst hw;exact ratC_mk hok' hI⟩
theorem mCmp_abs (a b:Nat→Int):Abs Tryz.prog 70 [agD (monC a),agD (monC b)] (ex (.int .i64 (lex8 a b))):=by
 refine Abs.of_old (callFunc_run Tryz.func70 (by kernel_rfl) (by kernel_rfl)) fun s vs hok hl hv=>?_
 rw [vs2 hl]
 have e0:=monC_open (hv 0 (by simp))
 have e1:=monC_open (hv 1 (by simp))
 rw [e0,e1]
 exact (mCmp_any a b _).mono fun e w' ⟨he,hE⟩=>⟨_,he,hE,fun s' hw hok' _ _=>rfl⟩
theorem RmCmp_abs (a b:Nat→Int):Abs Tryz.prog 73 [agD (monC a),agD (monC b)] (ex (.int .i64 (lex8 a b))):=by
 refine Abs.of_old (callFunc_run Tryz.func73 (by kernel_rfl) (by kernel_rfl)) fun s vs hok hl hv=>?_
 rw [vs2 hl]
 have e0:=monC_open (hv 0 (by simp))
 have e1:=monC_open (hv 1 (by simp))
 rw [e0,e1]
 exact (RmCmp_any a b _).mono fun e w' ⟨he,hE⟩=>⟨_,he,hE,fun s' hw hok' _ _=>rfl⟩
theorem mMul_abs (a b:Nat→Int) (ha:In8 a 0 65535) (hb:In8 b 0 65535) (h:In8 (add8 a b) 0 65535):Abs Tryz.prog 74 [agD (monC a),agD (monC b)] (tupD [agD (monC (add8 a b)),ex (.int .i64 0)]):=by
 refine Abs.of_old (callFunc_run Tryz.func74 (by kernel_rfl) (by kernel_rfl)) fun s vs hok hl hv=>?_
 rw [vs2 hl]
 have e0:=monC_open (hv 0 (by simp))
 have e1:=monC_open (hv 1 (by simp))
 rw [e0,e1]
 exact (mMul_true a b _ ha hb h).mono fun e w' ⟨he,hE⟩=>⟨_,he,hE,fun s' hw hok' _ _=>tup2 (monC_mk _) rfl⟩
theorem mDegree_abs (a : Nat→Int) (h:In8 a (-1000000) 1000000):Abs Tryz.prog 100 [agD (monC a)] (ex (.int .i64 (sumTo a 8))):=by
 refine Abs.of_old (callFunc_run Tryz.func100 (by kernel_rfl) (by kernel_rfl)) fun s vs hok hl hv=>?_
 rw [vs1 hl]
 have e0:=monC_open (hv 0 (by simp))
 rw [e0]
 exact (Degree_any a _ h).mono fun e w' ⟨he,hE⟩=>⟨_,he,hE,fun s' hw hok' _ _=>rfl⟩
theorem mValidT_abs (a : Nat→Int) (h:In8 a 0 65535):Abs Tryz.prog 69 [agD (monC a)] (ex (.bool true)):=by
 refine Abs.of_old (callFunc_run Tryz.func69 (by kernel_rfl) (by kernel_rfl)) fun s vs hok hl hv=>?_
 rw [vs1 hl]
 have e0:=monC_open (hv 0 (by simp))
 rw [e0]
 exact (mValid_true a _ h).mono fun e w' ⟨he,hE⟩=>⟨_,he,hE,fun s' hw hok' _ _=>rfl⟩
theorem mValidF_abs (a : Nat→Int) (h:¬ In8 a 0 65535):Abs Tryz.prog 69 [agD (monC a)] (ex (.bool false)):=by
 refine Abs.of_old (callFunc_run Tryz.func69 (by kernel_rfl) (by kernel_rfl)) fun s vs hok hl hv=>?_
 rw [vs1 hl]
 have e0:=monC_open (hv 0 (by simp))
 rw [e0]
 exact (mValid_false a _ h).mono fun e w' ⟨he,hE⟩=>⟨_,he,hE,fun s' hw hok' _ _=>rfl⟩
theorem oCmp_abs (R : List (Nat→Int)) (a b:Nat→Int) (hR:∀ r∈R,In8 r (-1000) 1000) (ha:In8 a (-1000000) 1000000) (hb:In8 b (-1000000) 1000000):Abs Tryz.prog 99 [ordD R,agD (monC a),agD (monC b)] (ex (.int .i64 (oCmp R a b))):=by
 refine Abs.of_old (callFunc_run Tryz.func99 (by kernel_rfl) (by kernel_rfl)) fun s vs hok hl hv=>?_
 rw [vs3 hl]
 have h0:=ordD_open (hv 0 (by simp))
 have e1:=monC_open (hv 1 (by simp))
 have e2:=monC_open (hv 2 (by simp))
 rw [e1,e2]
 exact (oCmp_any (vs.getD 0 undef) R a b _ h0 hR ha hb).mono fun e w' ⟨he,hE⟩=>⟨_,he,hE,fun s' hw hok' _ _=>rfl⟩
theorem RLex_abs : Abs Tryz.prog 66 [] (ordD []):=by
 refine Abs.of_old (callFunc_run Tryz.func66 (by kernel_rfl) (by kernel_rfl)) fun s vs hok hl hv=>?_
 obtain rfl:vs = []:=List.eq_nil_of_length_eq_zero hl
 exact (RLex_any s.w).mono fun e w' ⟨A,c,he,hO,hE⟩=>⟨_,he,hE,fun s' hw hok' hS _=>ordD_own hO hw hS⟩
theorem RGraded_abs : Abs Tryz.prog 65 [] (ordD [onesOf 255]):=by
 refine Abs.of_old (callFunc_run Tryz.func65 (by kernel_rfl) (by kernel_rfl)) fun s vs hok hl hv=>?_
 obtain rfl:vs = []:=List.eq_nil_of_length_eq_zero hl
 exact (RGraded_any s.w).mono fun e w' ⟨A,c,he,hO,hE⟩=>⟨_,he,hE,fun s' hw hok' hS _=>ordD_own hO hw hS⟩
theorem RSame_abs (P Q:List Tm):Abs Tryz.prog 19 [polD P,polD Q] (ex (.bool (sameB P Q))):=by
 refine Abs.of_old (callFunc_run Tryz.func19 (by kernel_rfl) (by kernel_rfl)) fun s vs hok hl hv=>?_
 rw [vs2 hl]
 have h0:=polD_open (hv 0 (by simp))
 have h1:=polD_open (hv 1 (by simp))
 exact (RSame_any (vs.getD 0 undef) (vs.getD 1 undef) P Q _ h0 h1).mono fun e w' ⟨he,hE⟩=>⟨_,he,hE,fun s' hw hok' _ _=>rfl⟩
theorem PMul_abs (P Q:List Tm) (N M:Nat) (hP:PSz P N) (hQ:PSz Q M) (p q:Int) (hPi:PIn P 0 p) (hQi:PIn Q 0 q) (hpq:p+q≤65535) (hp0:0≤p) (hq0:0≤q) (hn:P.length*Q.length≤100000) (hNM:N+M+1≤10000000):Abs Tryz.prog 18 [polD P,polD Q] (someD (fun S=>Canon S∧Sim S (mulL P Q)∧PIn S 0 (p+q)∧PSz S (P.length*Q.length*(N+M+1))∧S.length≤P.length*Q.length) fun S=>tupD [polD S,ex (.int .i64 0)]):=by
 refine Abs.of_old (callFunc_run Tryz.func18 (by kernel_rfl) (by kernel_rfl)) fun s vs hok hl hv=>?_
 rw [vs2 hl]
 have h0:=polD_open (hv 0 (by simp))
 have h1:=polD_open (hv 1 (by simp))
 exact (PMul_any (vs.getD 0 undef) (vs.getD 1 undef) P Q _ h0 h1 N M hP hQ p q hPi hQi hpq hp0 hq0 hn hNM).mono fun e w' ⟨S,g1,g2,g3,g4,g5,A,c,he,hO,hE⟩=>⟨_,he,hE,fun s' hw hok' hS _=>⟨S,⟨g1,g2,g3,g4,g5⟩,tup2 (polD_own hO hw hok' hS) rfl⟩⟩
theorem dAt_map {l : List D} {k:Nat}:(l.map AV.d)[k]? = if k<l.length then some (.d (dAt l k)) else none:=by
 rw [List.getElem?_map]
 split
 ·rename_i h
  simp [dAt,h]
 ·rename_i h
  simp [List.getElem?_eq_none (Nat.le_of_not_lt h)]
section
variable {P : Program} {hp:List Ow} {o:Oper} {arg:Operand→AV}
theorem Quiet.succ {T U:TypeId} {x y:Operand} {a:Nat} (hop:o.op = .binOp .add T x y U) (hx:arg x = .d (ex (.int .i64 (a:Nat)))) (hy:arg y = .d (ex (.int .i64 1))) (h1:(a:Int)<9223372036854775807):Quiet P hp o arg (.d (ex (.int .i64 ((a+1:Nat):Int)))) :=
 Quiet.add hop hx hy (by omega) (by omega)
theorem Quiet.quo {T U:TypeId} {x y:Operand} {a b:Int} (hop:o.op = .binOp .quo T x y U) (hx:arg x = .d (ex (.int .i64 a))) (hy:arg y = .d (ex (.int .i64 b))) (h0:0≤a) (h1:a≤9223372036854775807) (hb:0<b):Quiet P hp o arg (.d (ex (.int .i64 (a / b)))) :=
 Quiet.bin hop hx hy fun w=>by
  have h2:a / b≤a:=Int.ediv_le_self b h0
  have h3:0≤a / b:=Int.ediv_nonneg h0 (by omega)
  have h4:a.tdiv b = a / b:=Int.tdiv_eq_ediv_of_nonneg h0
  have e:IntKind.i64.wrap (a / b) = a / b:=IntWalk.i64_in _ (by omega)
  have hne:b ≠ 0:=by omega
  simp [eqGuard,binOp,Op.intDiv,hne,h4,e]
theorem Quiet.rem {T U:TypeId} {x y:Operand} {k:IntKind} {a b:Int} (hop:o.op = .binOp .rem T x y U) (hx:arg x = .d (ex (.int k a))) (hy:arg y = .d (ex (.int k b))) (h0:0≤a) (hb:0<b):Quiet P hp o arg (.d (ex (.int k (a % b)))) :=
 Quiet.bin hop hx hy fun w=>by
  have h4:a.tmod b = a % b:=Int.tmod_eq_emod_of_nonneg h0
  have hne:b ≠ 0:=by omega
  simp [eqGuard,binOp,Op.intDiv,hne,h4]
theorem Quiet.remT {T U:TypeId} {x y:Operand} {k:IntKind} {a b:Int} (hop:o.op = .binOp .rem T x y U) (hx:arg x = .d (ex (.int k a))) (hy:arg y = .d (ex (.int k b))) (hb:b ≠ 0):Quiet P hp o arg (.d (ex (.int k (a.tmod b)))) :=
 Quiet.bin hop hx hy fun w=>by simp [eqGuard,binOp,Op.intDiv,hb]
theorem Quiet.max {x y:Operand} {tys:Array TypeId} {k:IntKind} {a b:Int} (hop:o.op = .call { callee:=.builtin .max,args:=#[x,y],argTypes:=tys }) (hx:arg x = .d (ex (.int k a))) (hy:arg y = .d (ex (.int k b))):Quiet P hp o arg (.d (ex (.int k (Max.max a b)))):=by
 refine ⟨fun base s ρ ev hok hbs hhp h=>?_⟩
 have h1:=h x (by rw [hop];simp [Op.operands,Call.operands])
 have h2:=h y (by rw [hop];simp [Op.operands,Call.operands])
 rw [hx] at h1;rw [hy] at h2
 have e1:ev x = .int k a:=h1
 have e2:ev y = .int k b:=h2
 refine opG_val (v:=.int k (Max.max a b)) ?_ ⟨GS.Le.refl s,rfl⟩
 have e3:(if b > a then b else a) = Max.max a b:=by
  rw [Int.max_def]
  by_cases h:a≤b
  ·rw [if_pos h];split <;> omega
  ·rw [if_neg h,if_neg (by omega)]
 simp only [execOp,hop,resolve,invoke,builtin,Sem.run_bind,Sem.run_pure,Result.andThen_ok,List.map_toArray,List.map_cons,List.map_nil,e1,e2,Builtin.max_,List.foldlM_cons,List.foldlM_nil,Builtin.max2,e3]
theorem Quiet.indexN {α : Type} [Inhabited α] {x y:Operand} {t:TypeId} {e n b n' b' T sz k:Nat} {d:TypeDesc} {z z':Value} {f:α→List D} {l:List α} {κ:IntKind} (hop:o.op = .indexAddr t x y) (hx:asD hp (arg x) = some (slD T sz (l.map f))) (hy:arg y = .d (ex (.int κ (k:Nat)))) (ht:Tab P t (.slice e) n b z) (he:Tab P e d n' b' z') (hsz:n' = sz) (hk:k<l.length):Quiet P hp o arg (.d (epD T (f (l.getD k default)))):=by
 have h1:=Quiet.index (P:=P) (hp:=hp) hop hx hy ht he hsz (by omega) (by simp;omega)
 have e1:(l.map f).getD ((k:Nat):Int).toNat [] = f (l.getD k default):=by
  show (l.map f).getD k [] = _
  simp [List.getD_eq_getElem?_getD,hk]
 rwa [e1] at h1
theorem Quiet.loadEf {x : Operand} {t:TypeId} {d:TypeDesc} {n b T:Nat} {z:Value} {ds:List D} (hop:o.op = .load t x) (hx:arg x = .d (epD T ds)) (ht:Tab P t d n b z) (hd:isAg d = true) (hn:ds.length = n):Quiet P hp o arg (.d (agD ds)):=by
 have:=Quiet.loadE (P:=P) (hp:=hp) hop hx ht hd (by omega)
 rwa [← hn,List.take_length] at this
theorem asDs_map {hp : List Ow}:∀ (l:List D),asDs hp (l.map .d) = some l
 | []=>rfl
 | x :: l=>by simp only [List.map_cons,asDs,asD,asDs_map l]
theorem Quiet.loadD {x : Operand} {t:TypeId} {d:TypeDesc} {n b T id off:Nat} {z:Value} {ds:List D} (hop:o.op = .load t x) (hx:arg x = .ptr id off) (hh:hp[id]? = some (.var T (ds.map .d))) (ht:Tab P t d n b z) (hd:isAg d = true) (hn:Nat.ble (off+n) ds.length = true):Quiet P hp o arg (.d (agD ((ds.drop off).take n))) :=
 Quiet.loadP hop hx hh ht hd (by rw [← List.map_drop,← List.map_take];exact asDs_map _) (by have:=Nat.le_of_ble_eq_true hn;simpa using this)
theorem Quiet.loadD1 {x : Operand} {t:TypeId} {d:TypeDesc} {n b T id off:Nat} {z:Value} {ds:List D} (hop:o.op = .load t x) (hx:arg x = .ptr id off) (hh:hp[id]? = some (.var T (ds.map .d))) (ht:Tab P t d n b z) (hd:isAg d = false) (hn:off<ds.length):Quiet P hp o arg (.d (dAt ds off)) :=
 Quiet.loadP1 hop hx hh ht hd (by rw [dAt_map,if_pos hn])
end
section
variable {P : Program} {s0:An} {n:Nat} {ops:Array Oper} {Q:Exit→AS→Prop} {rest:List Oper} {o:Oper} {σ:AS}
theorem AWl.storeF {T T0:TypeId} {d:TypeDesc} {b id m:Nat} {z:Value} {x y:Operand} {cells:List AV} {ds:List D} (hop:o.op = .store T x y) (hg:o.guard = none) (hds:o.dst = none) (hx:σ.arg x = .ptr id 0) (hy:σ.arg y = .d (agD ds)) (hh:σ.hp[id]? = some (.var T0 cells)) (ht:Tab P T d m b z) (hm:ds.length = m) (hoff:cells.length = m)
  (h:AWl P s0 n ops Q rest { fr:=σ.fr,hp:=σ.hp.set id (.var T0 (ds.map .d)) }):AWl P s0 n ops Q (o :: rest) σ:=by
 refine AWl.storeA hop hg hds hx hy hh ht hm (by omega) ?_
 have:splice cells 0 (ds.map .d) = ds.map .d:=by
  unfold splice
  rw [List.take_zero,List.nil_append,List.drop_eq_nil_of_le (by simp;omega),List.append_nil]
 rw [this]
 exact h
theorem AWl.storeD {T T0:TypeId} {d:TypeDesc} {b id m off:Nat} {z:Value} {x y:Operand} {cs ds:List D} (hop:o.op = .store T x y) (hg:o.guard = none) (hds:o.dst = none) (hx:σ.arg x = .ptr id off) (hy:σ.arg y = .d (agD ds)) (hh:σ.hp[id]? = some (.var T0 (cs.map .d))) (ht:Tab P T d m b z) (hm:ds.length = m) (hoff:Nat.ble (off+m) cs.length = true)
  (h:AWl P s0 n ops Q rest { fr:=σ.fr,hp:=σ.hp.set id (.var T0 ((spl cs off ds).map .d)) }):AWl P s0 n ops Q (o :: rest) σ:=by
 refine AWl.storeA hop hg hds hx hy hh ht hm (by have:=Nat.le_of_ble_eq_true hoff;simpa using this) ?_
 have:splice (cs.map .d) off (ds.map .d) = (spl cs off ds).map .d:=by simp [splice,spl]
 rw [this]
 exact h
theorem AWl.storeD1 {T T0:TypeId} {d:TypeDesc} {b id off:Nat} {z:Value} {x y:Operand} {cs:List D} {u:D} (hop:o.op = .store T x y) (hg:o.guard = none) (hds:o.dst = none) (hx:σ.arg x = .ptr id off) (hy:σ.arg y = .d u) (hh:σ.hp[id]? = some (.var T0 (cs.map .d))) (ht:Tab P T d 1 b z) (h1:One σ.hp (.d u)) (hoff:off<cs.length)
  (h:AWl P s0 n ops Q rest { fr:=σ.fr,hp:=σ.hp.set id (.var T0 ((cs.set off u).map .d)) }):AWl P s0 n ops Q (o :: rest) σ:=by
 refine AWl.store1 hop hg hds hx hy hh ht h1 (by simpa using hoff) ?_
 have:(cs.map AV.d).set off (.d u) = (cs.set off u).map .d:=by rw [List.map_set]
 rw [this]
 exact h
theorem AWl.allocD {T : TypeId} {d:TypeDesc} {m b:Nat} {z:Value} (hop:o.op = .alloc T) (hg:o.guard = none) (ht:Tab P T d m b z) (hT:Nat.beq T 137 = false) (h1:one1 z.cells.toList = true) (hd:dLt o.dst n = true) (h:AWl P s0 n ops Q rest (σ.new o.dst (.ptr σ.hp.length 0) (.var T ((z.cells.toList.map ex).map .d)))):AWl P s0 n ops Q (o :: rest) σ:=by
 refine AWl.alloc hop hg ht (Nat.ne_of_beq_eq_false hT) h1 hd ?_
 have:exs z.cells.toList = (z.cells.toList.map ex).map .d:=by simp [exs]
 rw [this]
 exact h
end
def argF (fr : List (Nat × AV)):Operand→Option AV
 | .tmp t=>look fr t
 | .const v=>some (.d (ex v))
 | .global g=>some (.d (ex (.pointer (some ⟨g,0,none⟩))))
 | .func f=>some (.d (ex (.func (.func f) #[] #[])))
theorem ao {fr : List (Nat × AV)} {hp:List Ow} {x:Operand} {av:AV} (h:argF fr x = some av):AS.arg ⟨fr,hp⟩ x = av:=by
 cases x with
 | tmp t =>
  show (look fr t).getD (.d anyD) = av
  have h:look fr t = some av:=h
  rw [h];rfl
 | const v=>exact Option.some.inj h
 | global g=>exact Option.some.inj h
 | func f=>exact Option.some.inj h
theorem Quiet.lenN {α : Type} {P:Program} {hp:List Ow} {o:Oper} {arg:Operand→AV} {x:Operand} {t:TypeId} {e n b T sz:Nat} {z:Value} {f:α→List D} {l:List α} (hop:o.op = .call { callee:=.builtin .len,args:=#[x],argTypes:=#[t] }) (hx:asD hp (arg x) = some (slD T sz (l.map f))) (ht:Tab P t (.slice e) n b z):Quiet P hp o arg (.d (ex (.int .i64 (l.length:Nat)))):=by
 have:=Quiet.len (P:=P) hop hx ht
 rwa [List.length_map] at this
def findE : List (Nat × Nat)→Nat→Option Nat
 | [],_=>none
 | p :: r,t=>bif Nat.beq p.1 t then some p.2 else findE r t
theorem findE_some : ∀ {es:List (Nat × Nat)} {t j:Nat},findE es t = some j→∃ p,es.find? (fun p=>p.1 == t) = some p∧p.2 = j
 | [],_,_,h=>by cases h
 | p :: r,t,j,h=>by
  unfold findE at h
  cases hb:Nat.beq p.1 t with
  | true=>rw [hb] at h;cases h;exact ⟨p,by rw [List.find?_cons,Nat.eq_of_beq_eq_true hb];simp,rfl⟩
  | false =>
   rw [hb] at h
   obtain ⟨q,h1,h2⟩:=findE_some h
   refine ⟨q,?_,h2⟩
   rw [List.find?_cons]
   have:(p.1 == t) = false:=by simpa using Nat.ne_of_beq_eq_false hb
   rw [this]
   exact h1
theorem findE_none : ∀ {es:List (Nat × Nat)} {t:Nat},findE es t = none→es.find? (fun p=>p.1 == t) = none
 | [],_,_=>rfl
 | p :: r,t,h=>by
  unfold findE at h
  cases hb:Nat.beq p.1 t with
  | true=>rw [hb] at h;cases h
  | false =>
   rw [hb] at h
   rw [List.find?_cons]
   have:(p.1 == t) = false:=by simpa using Nat.ne_of_beq_eq_false hb
   rw [this]
   exact findE_none h
def hval : Option HR→Option AV
 | some (.av r)=>some r
 | _=>none
def argG (fr : List (Nat × AV)) (rs:List HR) (es:List (Nat × Nat)):Operand→Option AV
 | .tmp t=>match findE es t with
  | some j=>hval rs[j]?
  | none=>look fr t
 | .const v=>some (.d (ex v))
 | .global _=>none
 | .func f=>some (.d (ex (.func (.func f) #[] #[])))
theorem ah {fr : List (Nat × AV)} {hp:List Ow} {rs:List HR} {es:List (Nat × Nat)} {x:Operand} {av:AV} (h:argG fr rs es x = some av):argH ⟨fr,hp⟩ rs es x = av:=by
 cases x with
 | tmp t =>
  replace h:(match findE es t with
   | some j=>hval rs[j]?
   | none=>look fr t) = some av:=h
  show (match es.find? (fun p=>p.1 == t) with
   | some p=>match rs[p.2]? with
    | some h=>h.val
    | none=>.d anyD
   | none=>(look fr t).getD (.d anyD)) = av
  cases hf:findE es t with
  | some j =>
   rw [hf] at h
   replace h:hval rs[j]? = some av:=h
   obtain ⟨p,h1,h2⟩:=findE_some hf
   simp only [h1,h2]
   cases hr:rs[j]? with
   | none=>rw [hr] at h;cases h
   | some r =>
    rw [hr] at h
    cases r with
    | av r=>cases h;rfl
    | new T cs=>cases h
  | none =>
   rw [hf] at h
   simp only [findE_none hf]
   have h:look fr t = some av:=h
   rw [h];rfl
 | const v=>exact Option.some.inj h
 | global g=>cases h
 | func f=>exact Option.some.inj h
def snocO : List Ow→Ow→Option (List Ow)
 | [],x=>some [x]
 | o :: l,x=>match snocO l x with
  | some r=>some (o :: r)
  | none=>none
theorem snocO_eq : ∀ {l:List Ow} {x:Ow} {r:List Ow},snocO l x = some r→r = l ++ [x]
 | [],x,r,h=>by cases h;rfl
 | o :: l,x,r,h=>by
  unfold snocO at h
  split at h
  ·rename_i r' h'
   cases h
   rw [snocO_eq h']
   rfl
  ·cases h
def lenO : List Ow→Option Nat
 | []=>some 0
 | _ :: l=>match lenO l with
  | some k=>some (k+1)
  | none=>none
theorem lenO_eq : ∀ {l:List Ow} {k:Nat},lenO l = some k→k = l.length
 | [],k,h=>by cases h;rfl
 | o :: l,k,h=>by
  unfold lenO at h
  split at h
  ·rename_i r' h'
   cases h
   rw [lenO_eq h']
   rfl
  ·cases h
def setO : List Ow→Nat→Ow→Option (List Ow)
 | [],_,_=>none
 | _ :: l,0,x=>some (x :: l)
 | o :: l,i+1,x=>match setO l i x with
  | some r=>some (o :: r)
  | none=>none
theorem setO_eq : ∀ {l:List Ow} {i:Nat} {x:Ow} {r:List Ow},setO l i x = some r→r = l.set i x
 | [],_,_,_,h=>by cases h
 | _ :: l,0,x,r,h=>by cases h;rfl
 | o :: l,i+1,x,r,h=>by
  unfold setO at h
  split at h
  ·rename_i r' h'
   cases h
   rw [setO_eq h']
   rfl
  ·cases h
def exO : List Value→Option (List D)
 | []=>some []
 | v :: l=>match exO l with
  | some r=>some (ex v :: r)
  | none=>none
theorem exO_eq : ∀ {l:List Value} {r:List D},exO l = some r→r = l.map ex
 | [],r,h=>by cases h;rfl
 | v :: l,r,h=>by
  unfold exO at h
  split at h
  ·rename_i r' h'
   cases h
   rw [exO_eq h']
   rfl
  ·cases h
def takeO : Nat→List D→Option (List D)
 | 0,_=>some []
 | _+1,[]=>none
 | n+1,d :: l=>match takeO n l with
  | some r=>some (d :: r)
  | none=>none
theorem takeO_eq : ∀ {n:Nat} {l r:List D},takeO n l = some r→r = l.take n∧n≤l.length
 | 0,l,r,h=>by cases h;exact ⟨rfl,Nat.zero_le _⟩
 | n+1,[],r,h=>by cases h
 | n+1,d :: l,r,h=>by
  unfold takeO at h
  split at h
  ·rename_i r' h'
   cases h
   obtain ⟨h1,h2⟩:=takeO_eq h'
   exact ⟨by rw [h1];rfl,by simpa using h2⟩
  ·cases h
def subO : Nat→Nat→List D→Option (List D)
 | 0,n,l=>takeO n l
 | _+1,_,[]=>none
 | o+1,n,_ :: l=>subO o n l
theorem subO_eq : ∀ {o n:Nat} {l r:List D},subO o n l = some r→r = (l.drop o).take n∧o+n≤l.length
 | 0,n,l,r,h=>by
  obtain ⟨h1,h2⟩:=takeO_eq (n:=n) (l:=l) (r:=r) (by cases l <;> exact h)
  exact ⟨h1,by omega⟩
 | o+1,n,[],r,h=>by cases h
 | o+1,n,d :: l,r,h=>by
  obtain ⟨h1,h2⟩:=subO_eq (o:=o) (by exact h)
  exact ⟨h1,by simp;omega⟩
def atO : Nat→List D→Option D
 | _,[]=>none
 | 0,d :: _=>some d
 | i+1,_ :: l=>atO i l
theorem atO_eq : ∀ {i:Nat} {l:List D} {d:D},atO i l = some d→d = dAt l i∧i<l.length
 | i,[],d,h=>by cases i <;> cases h
 | 0,x :: l,d,h=>by cases h;exact ⟨rfl,by simp⟩
 | i+1,x :: l,d,h=>by
  obtain ⟨h1,h2⟩:=atO_eq (i:=i) (by exact h)
  exact ⟨h1,by simpa using h2⟩
def preO : List D→List D→Option (List D)
 | [],r=>some r
 | d :: l,r=>match preO l r with
  | some x=>some (d :: x)
  | none=>none
theorem preO_eq : ∀ {l r x:List D},preO l r = some x→x = l ++ r
 | [],r,x,h=>by cases h;rfl
 | d :: l,r,x,h=>by
  unfold preO at h
  split at h
  ·rename_i x' h'
   cases h
   rw [preO_eq h']
   rfl
  ·cases h
def dropO : Nat→List D→Option (List D)
 | 0,l=>some l
 | _+1,[]=>none
 | n+1,_ :: l=>dropO n l
theorem dropO_eq : ∀ {n:Nat} {l r:List D},dropO n l = some r→r = l.drop n∧n≤l.length
 | 0,l,r,h=>by cases l <;> (cases h;exact ⟨rfl,Nat.zero_le _⟩)
 | n+1,[],r,h=>by cases h
 | n+1,d :: l,r,h=>by
  obtain ⟨h1,h2⟩:=dropO_eq (n:=n) (by exact h)
  exact ⟨h1,by simpa using h2⟩
def splO : List D→Nat→List D→Option (List D)
 | l,0,es=>match dropO es.length l with
  | some r=>preO es r
  | none=>none
 | [],_+1,_=>none
 | d :: l,o+1,es=>match splO l o es with
  | some r=>some (d :: r)
  | none=>none
theorem splO_eq : ∀ {l:List D} {o:Nat} {es r:List D},splO l o es = some r→r = spl l o es∧o+es.length≤l.length
 | l,0,es,r,h=>by
  have h':(match dropO es.length l with
   | some r=>preO es r
   | none=>none) = some r:=by cases l <;> exact h
  split at h'
  ·rename_i r' h1
   obtain ⟨h2,h3⟩:=dropO_eq h1
   rw [preO_eq h',h2]
   exact ⟨by simp [spl],by omega⟩
  ·cases h'
 | [],o+1,es,r,h=>by cases h
 | d :: l,o+1,es,r,h=>by
  unfold splO at h
  split at h
  ·rename_i r' h1
   cases h
   obtain ⟨h2,h3⟩:=splO_eq h1
   rw [h2]
   refine ⟨?_,by simp;omega⟩
   simp only [spl,List.take_succ_cons,List.cons_append]
   rw [show o+1+es.length = (o+es.length)+1 by omega,List.drop_succ_cons]
  ·cases h
def downO (id : Nat) (x:D):List (Nat × AV)→Option (List (Nat × AV))
 | []=>some []
 | (t,.own j) :: l=>match downO id x l with
  | some r=>bif Nat.beq j id then some ((t,.d x) :: r) else some ((t,.own j) :: r)
  | none=>none
 | (t,.fn f caps) :: l=>match downO id x l with
  | some r=>bif caps.contains id then some ((t,.d anyD) :: r) else some ((t,.fn f caps) :: r)
  | none=>none
 | (t,av) :: l=>match downO id x l with
  | some r=>some ((t,av) :: r)
  | none=>none
theorem downO_eq {id : Nat} {x:D}:∀ {l r:List (Nat × AV)},downO id x l = some r→r = l.map fun p=>(p.1,down id x p.2)
 | [],r,h=>by cases h;rfl
 | (t,av) :: l,r,h=>by
  have key:∃ r',downO id x l = some r'∧r = (t,down id x av) :: r':=by
   cases av with
   | d y =>
    replace h:(match downO id x l with
     | some r=>some ((t,.d y) :: r)
     | none=>none) = some r:=h
    split at h
    ·rename_i r' h';cases h;exact ⟨r',h',rfl⟩
    ·cases h
   | fn f caps =>
    replace h:(match downO id x l with
     | some r=>bif caps.contains id then some ((t,.d anyD) :: r) else some ((t,.fn f caps) :: r)
     | none=>none) = some r:=h
    split at h
    ·rename_i r' h'
     cases hb:caps.contains id with
     | true=>rw [hb] at h;cases h;exact ⟨r',h',by simp only [down,hb];rfl⟩
     | false=>rw [hb] at h;cases h;exact ⟨r',h',by simp only [down,hb];rfl⟩
    ·cases h
   | ptr i o =>
    replace h:(match downO id x l with
     | some r=>some ((t,.ptr i o) :: r)
     | none=>none) = some r:=h
    split at h
    ·rename_i r' h';cases h;exact ⟨r',h',rfl⟩
    ·cases h
   | own j =>
    replace h:(match downO id x l with
     | some r=>bif Nat.beq j id then some ((t,.d x) :: r) else some ((t,.own j) :: r)
     | none=>none) = some r:=h
    split at h
    ·rename_i r' h'
     cases hb:Nat.beq j id with
     | true=>rw [hb] at h;cases h;exact ⟨r',h',by simp [down,hb]⟩
     | false=>rw [hb] at h;cases h;exact ⟨r',h',by simp [down,hb]⟩
    ·cases h
  obtain ⟨r',h1,rfl⟩:=key
  rw [downO_eq h1]
  rfl
def plainA (id : Nat):List AV→Bool
 | []=>true
 | .own j :: l=>bif Nat.beq j id then false else plainA id l
 | .fn _ caps :: l=>bif caps.contains id then false else plainA id l
 | _ :: l=>plainA id l
def plainHp (id : Nat):List Ow→Bool
 | []=>true
 | .var _ c :: l=>plainA id c && plainHp id l
 | .pin c :: l=>plainA id (c.map (·.2)) && plainHp id l
 | _ :: l=>plainHp id l
theorem plainA_down {id : Nat} {x:D}:∀ {l:List AV},plainA id l = true→l.map (down id x) = l
 | [],_=>rfl
 | .d y :: l,h=>by rw [List.map_cons,plainA_down (by exact h)];rfl
 | .ptr _ _ :: l,h=>by rw [List.map_cons,plainA_down (by exact h)];rfl
 | .own j :: l,h=>by
  replace h:(bif Nat.beq j id then false else plainA id l) = true:=h
  cases hb:Nat.beq j id with
  | true=>rw [hb] at h;cases h
  | false=>rw [hb] at h;rw [List.map_cons,plainA_down (by exact h)];simp only [down,hb];rfl
 | .fn f caps :: l,h=>by
  replace h:(bif caps.contains id then false else plainA id l) = true:=h
  cases hb:caps.contains id with
  | true=>rw [hb] at h;cases h
  | false=>rw [hb] at h;rw [List.map_cons,plainA_down (by exact h)];simp only [down,hb];rfl
theorem plainA_pin {id : Nat} {x:D}:∀ {l:List (Value × AV)},plainA id (l.map (·.2)) = true→(l.map fun p=>(p.1,down id x p.2)) = l:=fun {l} h=>by
 have h1:=plainA_down (x:=x) h
 apply List.ext_getElem?
 intro k
 have h2:=congrArg (fun y=>y[k]?) h1
 simp only [List.getElem?_map] at h2 ⊢
 cases hk:l[k]? with
 | none=>rfl
 | some p =>
  rw [hk] at h2
  simp only [Option.map_some,Option.some.injEq] at h2 ⊢
  rw [h2]
theorem plainHp_down {id : Nat} {x:D}:∀ {l:List Ow},plainHp id l = true→l.map (Ow.mapA (down id x)) = l
 | [],_=>rfl
 | .var T c :: l,h=>by
  simp only [plainHp,Bool.and_eq_true] at h
  rw [List.map_cons,plainHp_down h.2]
  simp only [Ow.mapA,plainA_down h.1]
 | .pin c :: l,h=>by
  simp only [plainHp,Bool.and_eq_true] at h
  rw [List.map_cons,plainHp_down h.2]
  simp only [Ow.mapA,plainA_pin h.1]
 | .dead :: l,h=>by rw [List.map_cons,plainHp_down (by exact h)];rfl
 | .row _ _ _ :: l,h=>by rw [List.map_cons,plainHp_down (by exact h)];rfl
 | .obj _ :: l,h=>by rw [List.map_cons,plainHp_down (by exact h)];rfl
theorem plainA_mapD {id : Nat}:∀ l:List D,plainA id (l.map .d) = true
 | []=>rfl
 | _ :: l=>plainA_mapD (id:=id) l
def PlainHp (id : Nat):List Ow→Prop
 | []=>True
 | .var _ c :: l=>plainA id c = true∧PlainHp id l
 | .pin c :: l=>plainA id (c.map (·.2)) = true∧PlainHp id l
 | _ :: l=>PlainHp id l
theorem PlainHp.ok {id : Nat}:∀ {l:List Ow},PlainHp id l→plainHp id l = true
 | [],_=>rfl
 | .var T c :: l,h=>by simp only [plainHp,Bool.and_eq_true];exact ⟨h.1,PlainHp.ok h.2⟩
 | .pin c :: l,h=>by simp only [plainHp,Bool.and_eq_true];exact ⟨h.1,PlainHp.ok h.2⟩
 | .dead :: l,h=>PlainHp.ok (l:=l) h
 | .row _ _ _ :: l,h=>PlainHp.ok (l:=l) h
 | .obj _ :: l,h=>PlainHp.ok (l:=l) h
section
variable {id : Nat} {l:List Ow}
theorem PlainHp.nil : PlainHp id []:=trivial
theorem PlainHp.var {T : TypeId} {c:List D} (h:PlainHp id l):PlainHp id (.var T (c.map .d) :: l):=⟨plainA_mapD c,h⟩
theorem PlainHp.varA {T : TypeId} {c:List AV} (hc:plainA id c = true) (h:PlainHp id l):PlainHp id (.var T c :: l):=⟨hc,h⟩
theorem PlainHp.pin {c : List (Value × AV)} (hc:plainA id (c.map (·.2)) = true) (h:PlainHp id l):PlainHp id (.pin c :: l):=⟨hc,h⟩
theorem PlainHp.obj {O : OD} (h:PlainHp id l):PlainHp id (.obj O :: l):=h
theorem PlainHp.dead (h : PlainHp id l):PlainHp id (.dead :: l):=h
theorem PlainHp.row {T sz:Nat} {r:List (List D)} (h:PlainHp id l):PlainHp id (.row T sz r :: l):=h
end
def aftO : List (Nat × AV)→List Ow→Nat→List Oper→List HR→Option AS
 | fr,hp,0,_,_=>some ⟨fr,hp⟩
 | fr,hp,m+1,o :: L,.av r :: rs=>match o.dst with
  | some d=>aftO ((d,r) :: fr) hp m L rs
  | none=>aftO fr hp m L rs
 | fr,hp,m+1,o :: L,.new T cs :: rs=>match o.dst,lenO hp,exO cs with
  | some d,some k,some c=>match snocO hp (.var T (c.map .d)) with
   | some hp'=>aftO ((d,.ptr k 0) :: fr) hp' m L rs
   | none=>none
  | _,_,_=>none
 | _,_,_,_,_=>none
theorem aftO_eq : ∀ {m:Nat} {fr:List (Nat × AV)} {hp:List Ow} {L:List Oper} {rs:List HR} {τ:AS},aftO fr hp m L rs = some τ→rs.length = m→τ = AS.aft ⟨fr,hp⟩ (L.take m) rs
 | 0,fr,hp,L,rs,τ,h,hl=>by
  obtain rfl:rs = []:=List.eq_nil_of_length_eq_zero hl
  cases L <;> (cases h;rfl)
 | m+1,fr,hp,[],[],τ,h,hl=>by cases hl
 | m+1,fr,hp,[],r :: rs,τ,h,hl=>by cases r <;> cases h
 | m+1,fr,hp,o :: L,[],τ,h,hl=>by cases hl
 | m+1,fr,hp,o :: L,.av r :: rs,τ,h,hl=>by
  rw [List.take_succ_cons]
  have hl:rs.length = m:=by simpa using hl
  unfold aftO at h
  cases hd:o.dst with
  | some d =>
   rw [hd] at h
   have:=aftO_eq h hl
   rw [this]
   simp only [AS.aft,AS.put,hd]
  | none =>
   rw [hd] at h
   have:=aftO_eq h hl
   rw [this]
   simp only [AS.aft,AS.put,hd]
 | m+1,fr,hp,o :: L,.new T cs :: rs,τ,h,hl=>by
  rw [List.take_succ_cons]
  have hl:rs.length = m:=by simpa using hl
  unfold aftO at h
  split at h
  ·rename_i d k c hd hk hc
   split at h
   ·rename_i hp' hs
    have:=aftO_eq h hl
    rw [this]
    have e1:=snocO_eq hs
    have e2:=lenO_eq hk
    have e3:=exO_eq hc
    subst e1;subst e2;subst e3
    simp only [AS.aft,AS.new,AS.put,hd]
    congr 3
    simp [exs]
   ·cases h
  ·cases h
section
variable {P : Program} {s0:An} {n:Nat} {ops:Array Oper} {Q:Exit→AS→Prop} {rest:List Oper} {o:Oper} {fr:List (Nat × AV)} {hp:List Ow}
theorem AWl.q {d : Nat} {r:AV} (hdst:o.dst = some d) (hg:o.guard = none) (hs:notSelect o.op = true) (hd:Nat.blt d n = true) (hq:Quiet P hp o (AS.arg ⟨fr,hp⟩) r) (h:AWl P s0 n ops Q rest ⟨(d,r) :: fr,hp⟩):AWl P s0 n ops Q (o :: rest) ⟨fr,hp⟩ :=
 AWl.quiet hg hs (by rw [hdst];exact hd) hq (by rw [hdst];exact h)
theorem AWl.qG {d : Nat} {r:AV} {j:Nat} {b:Bool} {e:Nat} (hg:o.guard = some (j,b)) (hy:(ops[j]?).bind (·.dst) = some e) (hl:look fr e = some (.d (ex (.bool b)))) (hen:Nat.blt e n = true) (hdst:o.dst = some d) (hs:notSelect o.op = true) (hd:Nat.blt d n = true) (hq:Quiet P hp o (AS.arg ⟨fr,hp⟩) r) (h:AWl P s0 n ops Q rest ⟨(d,r) :: fr,hp⟩):AWl P s0 n ops Q (o :: rest) ⟨fr,hp⟩ :=
 AWl.quietG hg hy hl (by simpa [Nat.blt_eq] using hen) hs (by rw [hdst];exact hd) hq (by rw [hdst];exact h)
theorem AWl.sG {d : Nat} {j:Nat} {b:Bool} {u:Value} {e:Nat} (hg:o.guard = some (j,b)) (hy:(ops[j]?).bind (·.dst) = some e) (hl:look fr e = some (.d (ex u))) (hne:isB u b = false) (hen:Nat.blt e n = true) (hdst:o.dst = some d) (hd:Nat.blt d n = true) (h:AWl P s0 n ops Q rest ⟨(d,.d (ex undef)) :: fr,hp⟩):AWl P s0 n ops Q (o :: rest) ⟨fr,hp⟩ :=
 AWl.skipG hg hy hl hne (by simpa [Nat.blt_eq] using hen) (by rw [hdst];exact hd) (by rw [hdst];exact h)
theorem AWl.al {T : TypeId} {d:TypeDesc} {m b k t:Nat} {z:Value} {c:List D} {hp':List Ow} (hop:o.op = .alloc T) (hdst:o.dst = some t) (hg:o.guard = none) (ht:Tab P T d m b z) (hT:Nat.beq T 137 = false) (h1:one1 z.cells.toList = true) (hd:Nat.blt t n = true) (hc:exO z.cells.toList = some c) (hk:lenO hp = some k) (hs:snocO hp (.var T (c.map .d)) = some hp') (h:AWl P s0 n ops Q rest ⟨(t,.ptr k 0) :: fr,hp'⟩):AWl P s0 n ops Q (o :: rest) ⟨fr,hp⟩:=by
 refine AWl.allocD hop hg ht hT h1 (by rw [hdst];exact hd) ?_
 rw [exO_eq hc] at hs
 rw [snocO_eq hs,lenO_eq hk] at h
 simp only [AS.new,AS.put,hdst]
 exact h
theorem AWl.bx {T : TypeId} {x:Operand} {ds:List D} {k t:Nat} {hp':List Ow} (hop:o.op = .box T x) (hdst:o.dst = some t) (hg:o.guard = none) (hx:AS.arg ⟨fr,hp⟩ x = .d (agD ds)) (hT:Nat.beq T 137 = false) (hd:Nat.blt t n = true) (hk:lenO hp = some k) (hs:snocO hp (.var T (ds.map .d)) = some hp') (h:AWl P s0 n ops Q rest ⟨(t,.ptr k 0) :: fr,hp'⟩):AWl P s0 n ops Q (o :: rest) ⟨fr,hp⟩:=by
 refine AWl.box hop hg hx (Nat.ne_of_beq_eq_false hT) (by rw [hdst];exact hd) ?_
 rw [snocO_eq hs,lenO_eq hk] at h
 simp only [AS.new,AS.put,hdst]
 exact h
theorem AWl.stF {T T0:TypeId} {d:TypeDesc} {b id m:Nat} {z:Value} {x y:Operand} {cells:List AV} {ds:List D} {hp':List Ow} (hop:o.op = .store T x y) (hg:o.guard = none) (hds:o.dst = none) (hx:AS.arg ⟨fr,hp⟩ x = .ptr id 0) (hy:AS.arg ⟨fr,hp⟩ y = .d (agD ds)) (hh:hp[id]? = some (.var T0 cells)) (ht:Tab P T d m b z) (hm:ds.length = m) (hoff:cells.length = m) (hs:setO hp id (.var T0 (ds.map .d)) = some hp')
  (h:AWl P s0 n ops Q rest ⟨fr,hp'⟩):AWl P s0 n ops Q (o :: rest) ⟨fr,hp⟩ :=
 AWl.storeF hop hg hds hx hy hh ht hm hoff (by rw [setO_eq hs] at h;exact h)
theorem AWl.app {x y:Operand} {t T T2 sz bytes id m b e:Nat} {z z':Value} {d:TypeDesc} {rows r2:List (List D)} {fr':List (Nat × AV)} {hp':List Ow} (hop:o.op = .call { callee:=.builtin .append,args:=#[x,y],argTypes:=#[t,t] }) (hdst:o.dst = some e) (hg:o.guard = none) (hx:AS.arg ⟨fr,hp⟩ x = .own id) (hy:asD hp (AS.arg ⟨fr,hp⟩ y) = some (slD T2 sz r2)) (hh:hp[id]? = some (.row T sz rows)) (ht:Tab P t (.slice T) m b z') (hT:Tab P T d sz bytes z) (hzs:z.cells.size = sz) (hd:Nat.blt e n = true) (hbytes:(rows.length+r2.length)*bytes≤140737488355328) (h63:rows.length+r2.length≤4611686018427387904)
  (hf:downO id (slD T sz rows) fr = some fr') (hpl:PlainHp id hp) (hs:setO hp id (.row T sz (rows ++ r2)) = some hp') (h:AWl P s0 n ops Q rest ⟨(e,.own id) :: fr',hp'⟩):AWl P s0 n ops Q (o :: rest) ⟨fr,hp⟩:=by
 refine AWl.append hop hg hx hy hh ht hT hzs (by rw [hdst];exact hd) hbytes h63 ?_
 rw [setO_eq hs,downO_eq hf] at h
 simp only [AS.appd,AS.put,hdst,plainHp_down hpl.ok]
 exact h
theorem AWl.b0 {t T m b sz bytes k e:Nat} {z z':Value} {d:TypeDesc} {hp':List Ow} (hop:o.op = .buildSlice t 0 #[]) (hdst:o.dst = some e) (hg:o.guard = none) (ht:Tab P t (.slice T) m b z') (hT:Tab P T d sz bytes z) (hT32:Nat.beq T 137 = false) (h0:Nat.blt 0 sz = true) (hd:Nat.blt e n = true) (hk:lenO hp = some k) (hs:snocO hp (.row T sz []) = some hp') (h:AWl P s0 n ops Q rest ⟨(e,.own k) :: fr,hp'⟩):AWl P s0 n ops Q (o :: rest) ⟨fr,hp⟩:=by
 refine AWl.build0 hop hg ht hT (Nat.ne_of_beq_eq_false hT32) (by simpa [Nat.blt_eq] using h0) (by rw [hdst];exact hd) ?_
 rw [snocO_eq hs,lenO_eq hk] at h
 simp only [AS.new,AS.put,hdst]
 exact h
theorem AWl.mk0 {t T m b sz bytes k e:Nat} {z z':Value} {d:TypeDesc} {x y:Operand} {c:Int} {hp':List Ow} (hop:o.op = .makeSlice t x y) (hdst:o.dst = some e) (hg:o.guard = none) (hx:AS.arg ⟨fr,hp⟩ x = .d (ex (.int .i64 0))) (hy:AS.arg ⟨fr,hp⟩ y = .d (ex (.int .i64 c))) (ht:Tab P t (.slice T) m b z') (hT:Tab P T d sz bytes z) (hc0:0≤c) (hc:c≤1000000000) (hbytes:Nat.ble bytes 65536 = true) (hT32:Nat.beq T 137 = false) (h0:Nat.blt 0 sz = true) (hd:Nat.blt e n = true) (hk:lenO hp = some k) (hs:snocO hp (.row T sz []) = some hp') (h:AWl P s0 n ops Q rest ⟨(e,.own k) :: fr,hp'⟩):AWl P s0 n ops Q (o :: rest) ⟨fr,hp⟩:=by
 refine AWl.make0 hop hg hx hy ht hT hc0 hc (Nat.le_of_ble_eq_true hbytes) (Nat.ne_of_beq_eq_false hT32) (by simpa [Nat.blt_eq] using h0) (by rw [hdst];exact hd) ?_
 rw [snocO_eq hs,lenO_eq hk] at h
 simp only [AS.new,AS.put,hdst]
 exact h
theorem AWp.dr {id : Nat} {L0:Array Oper} {L:List Oper} {Q0:Exit→AS→Prop} {τ:AS} (hm:DrawOk P s0 n id L0 L Q0 Q) (es:List (List (Nat × Nat))) (bs:List (List Nat)) (rs:List HR) (hlen:(es.length == bs.length && es.length == rs.length && Nat.ble rs.length L.length) = true) (hok:regOk L (shOf 0 es bs) = true) (hd:dstOk L es.length n = true) (steps:HSteps P ⟨fr,hp⟩ rs L es rs)
  (ha:aftO fr hp rs.length L rs = some τ) (tail:AWl P s0 n L.toArray Q (L.drop es.length) τ):AWp P s0 n (.region id L0 true) Q0 ⟨fr,hp⟩:=by
 refine AWp.draw hm es bs rs hlen hok hd steps ?_
 simp only [Bool.and_eq_true,beq_iff_eq] at hlen
 rw [hlen.1.2,← aftO_eq ha rfl,← hlen.1.2]
 exact tail
end
section
variable {P : Program} {hp:List Ow} {o:Oper} {arg:Operand→AV}
theorem Quiet.ldE {x : Operand} {t:TypeId} {d:TypeDesc} {n b T:Nat} {z:Value} {ds r:List D} (hop:o.op = .load t x) (hx:arg x = .d (epD T ds)) (ht:Tab P t d n b z) (hd:isAg d = true) (hr:takeO n ds = some r):Quiet P hp o arg (.d (agD r)):=by
 obtain ⟨e1,e2⟩:=takeO_eq hr
 rw [e1]
 exact Quiet.loadE hop hx ht hd e2
theorem Quiet.ldE1 {x : Operand} {t:TypeId} {d:TypeDesc} {n b T:Nat} {z:Value} {ds:List D} {r:D} (hop:o.op = .load t x) (hx:arg x = .d (epD T ds)) (ht:Tab P t d n b z) (hd:isAg d = false) (hr:atO 0 ds = some r):Quiet P hp o arg (.d r):=by
 obtain ⟨e1,e2⟩:=atO_eq hr
 rw [e1]
 exact Quiet.loadE1 hop hx ht hd e2
theorem Quiet.ldD {x : Operand} {t:TypeId} {d:TypeDesc} {n b T id off:Nat} {z:Value} {ds r:List D} (hop:o.op = .load t x) (hx:arg x = .ptr id off) (hh:hp[id]? = some (.var T (ds.map .d))) (ht:Tab P t d n b z) (hd:isAg d = true) (hr:subO off n ds = some r):Quiet P hp o arg (.d (agD r)):=by
 obtain ⟨e1,e2⟩:=subO_eq hr
 rw [e1]
 exact Quiet.loadD hop hx hh ht hd (Nat.ble_eq_true_of_le e2)
theorem Quiet.ldD1 {x : Operand} {t:TypeId} {d:TypeDesc} {n b T id off:Nat} {z:Value} {ds:List D} {r:D} (hop:o.op = .load t x) (hx:arg x = .ptr id off) (hh:hp[id]? = some (.var T (ds.map .d))) (ht:Tab P t d n b z) (hd:isAg d = false) (hr:atO off ds = some r):Quiet P hp o arg (.d r):=by
 obtain ⟨e1,e2⟩:=atO_eq hr
 rw [e1]
 exact Quiet.loadD1 hop hx hh ht hd e2
theorem Quiet.ext {x : Operand} {i:Nat} {ds:List D} {r:D} (hop:o.op = .extract x i) (hx:arg x = .d (tupD ds)) (hr:atO i ds = some r):Quiet P hp o arg (.d r):=by
 obtain ⟨e1,e2⟩:=atO_eq hr
 rw [e1]
 exact Quiet.extract hop hx e2
theorem Quiet.fldE {x : Operand} {S:TypeId} {fs:Array Field} {f n b n' b' T:Nat} {fd:Field} {d:TypeDesc} {z z':Value} {ds r:List D} (hop:o.op = .fieldAddr S x f) (hx:arg x = .d (epD T ds)) (hS:Tab P S (.struct fs) n b z) (hf:fs[f]? = some fd) (he:Tab P fd.type d n' b' z') (hn:Nat.beq n' 0 = false) (hr:dropO fd.offset ds = some r):Quiet P hp o arg (.d (epD T r)):=by
 obtain ⟨e1,e2⟩:=dropO_eq hr
 rw [e1]
 exact Quiet.fieldE hop hx hS hf he (Nat.ne_of_beq_eq_false hn)
theorem Quiet.fldP {x : Operand} {S:TypeId} {fs:Array Field} {f n b n' b' id off:Nat} {fd:Field} {d:TypeDesc} {z z':Value} (hop:o.op = .fieldAddr S x f) (hx:arg x = .ptr id off) (hS:Tab P S (.struct fs) n b z) (hf:fs[f]? = some fd) (he:Tab P fd.type d n' b' z') (hn:Nat.beq n' 0 = false):Quiet P hp o arg (.ptr id (off+fd.offset)) :=
 Quiet.fieldP hop hx hS hf he (Nat.ne_of_beq_eq_false hn)
end
def cmpP : BinOp→Int→Int→Prop
 | .eql,a,b=>a = b
 | .neq,a,b=>a ≠ b
 | .lss,a,b=>a<b
 | .leq,a,b=>a≤b
 | .gtr,a,b=>b<a
 | .geq,a,b=>b≤a
 | _,_,_=>False
def isCmp : BinOp→Bool
 | .eql | .neq | .lss | .leq | .gtr | .geq=>true
 | _=>false
section
variable {P : Program} {hp:List Ow} {o:Oper} {arg:Operand→AV}
theorem Quiet.cmpT {op : BinOp} {T U:TypeId} {x y:Operand} {k:IntKind} {a b:Int} (hop:o.op = .binOp op T x y U) (hb:isCmp op = true) (hx:arg x = .d (ex (.int k a))) (hy:arg y = .d (ex (.int k b))) (hc:cmpP op a b):Quiet P hp o arg (.d (ex (.bool true))):=by
 refine Quiet.cmp hop hx hy ?_
 cases op <;> first | (simp only [cmpP] at hc;simp [cmpB,hc];done) | (simp only [cmpP] at hc;simp [cmpB];omega) | exact absurd hb (by decide)
theorem Quiet.cmpF {op : BinOp} {T U:TypeId} {x y:Operand} {k:IntKind} {a b:Int} (hop:o.op = .binOp op T x y U) (hb:isCmp op = true) (hx:arg x = .d (ex (.int k a))) (hy:arg y = .d (ex (.int k b))) (hc:¬ cmpP op a b):Quiet P hp o arg (.d (ex (.bool false))):=by
 refine Quiet.cmp hop hx hy ?_
 cases op <;> first | (simp only [cmpP] at hc;simp [cmpB,hc];done) | (simp only [cmpP] at hc;simp [cmpB];omega) | exact absurd hb (by decide)
theorem Quiet.index0 {α : Type} {x y:Operand} {t:TypeId} {e n b n' b' T sz:Nat} {d:TypeDesc} {z z':Value} {f:α→List D} {a:α} {l:List α} {κ:IntKind} (hop:o.op = .indexAddr t x y) (hx:asD hp (arg x) = some (slD T sz ((a :: l).map f))) (hy:arg y = .d (ex (.int κ 0))) (ht:Tab P t (.slice e) n b z) (he:Tab P e d n' b' z') (hsz:n' = sz):Quiet P hp o arg (.d (epD T (f a))) :=
 Quiet.index (P:=P) (hp:=hp) hop hx hy ht he hsz (by omega) (by simp)
theorem Quiet.dropN {α : Type} {x y:Operand} {t:TypeId} {e n b n' b' T sz i:Nat} {d:TypeDesc} {z z':Value} {f:α→List D} {l:List α} (hop:o.op = .slice t x (some y) none none) (hx:asD hp (arg x) = some (slD T sz (l.map f))) (hy:arg y = .d (ex (.int .i64 (i:Nat)))) (ht:Tab P t (.slice e) n b z) (he:Tab P e d n' b' z') (hsz:n' = sz) (hi:i≤l.length):Quiet P hp o arg (.d (slD T sz ((l.drop i).map f))):=by
 have h:=Quiet.slice (P:=P) (hp:=hp) (i:=(i:Nat)) (j:=((l.map f).length:Nat)) hop hx ht he hsz (.inl ⟨y,rfl,hy⟩) (.inr ⟨rfl,rfl⟩) (by omega) (by simp;omega) (by omega)
 have e1:((l.map f).take (((l.map f).length:Nat):Int).toNat).drop ((i:Nat):Int).toNat = (l.drop i).map f:=by
  rw [show (((l.map f).length:Nat):Int).toNat = (l.map f).length from rfl,List.take_length,List.map_drop]
  rfl
 rwa [e1] at h
theorem Quiet.tailN {α : Type} {x y:Operand} {t:TypeId} {e n b n' b' T sz:Nat} {d:TypeDesc} {z z':Value} {f:α→List D} {a:α} {l:List α} (hop:o.op = .slice t x (some y) none none) (hx:asD hp (arg x) = some (slD T sz ((a :: l).map f))) (hy:arg y = .d (ex (.int .i64 1))) (ht:Tab P t (.slice e) n b z) (he:Tab P e d n' b' z') (hsz:n' = sz):Quiet P hp o arg (.d (slD T sz (l.map f))) :=
 Quiet.dropN (l:=a :: l) (i:=1) hop hx hy ht he hsz (by simp)
end
theorem map_snoc {α : Type} (f:α→List D) (l:List α) (a:α):l.map f ++ [f a] = (l ++ [a]).map f:=by simp
theorem AWl.q' {P : Program} {s0:An} {n:Nat} {ops:Array Oper} {Q:Exit→AS→Prop} {rest:List Oper} {o:Oper} {fr:List (Nat × AV)} {hp:List Ow} {d:Nat} (hdst:o.dst = some d) (hg:o.guard = none) (hs:notSelect o.op = true) (hd:Nat.blt d n = true) (h:∃ r,Quiet P hp o (AS.arg ⟨fr,hp⟩) r∧AWl P s0 n ops Q rest ⟨(d,r) :: fr,hp⟩):AWl P s0 n ops Q (o :: rest) ⟨fr,hp⟩:=by
 obtain ⟨r,h1,h2⟩:=h
 exact AWl.q hdst hg hs hd h1 h2
theorem AWl.qG' {P : Program} {s0:An} {n:Nat} {ops:Array Oper} {Q:Exit→AS→Prop} {rest:List Oper} {o:Oper} {fr:List (Nat × AV)} {hp:List Ow} {d:Nat} {j:Nat} {b:Bool} {e:Nat} (hg:o.guard = some (j,b)) (hy:(ops[j]?).bind (·.dst) = some e) (hl:look fr e = some (.d (ex (.bool b)))) (hen:Nat.blt e n = true) (hdst:o.dst = some d) (hs:notSelect o.op = true) (hd:Nat.blt d n = true) (h:∃ r,Quiet P hp o (AS.arg ⟨fr,hp⟩) r∧AWl P s0 n ops Q rest ⟨(d,r) :: fr,hp⟩):AWl P s0 n ops Q (o :: rest) ⟨fr,hp⟩:=by
 obtain ⟨r,h1,h2⟩:=h
 exact AWl.qG hg hy hl hen hdst hs hd h1 h2
def snocH : List HR→HR→Option (List HR)
 | [],x=>some [x]
 | o :: l,x=>match snocH l x with
  | some r=>some (o :: r)
  | none=>none
theorem snocH_eq : ∀ {l:List HR} {x:HR} {r:List HR},snocH l x = some r→r = l ++ [x]
 | [],x,r,h=>by cases h;rfl
 | o :: l,x,r,h=>by
  unfold snocH at h
  split at h
  ·rename_i r' h'
   cases h
   rw [snocH_eq h']
   rfl
  ·cases h
def HS (P : Program) (σ:AS) (K:List HR→Prop):List HR→List Oper→List (List (Nat × Nat))→Prop
 | acc,_,[]=>K acc
 | acc,o :: L,e :: es=>∃ r,HStep P σ acc e o r∧∃ acc',snocH acc r = some acc'∧HS P σ K acc' L es
 | _,[],_ :: _=>False
def earlier : Nat→List Oper→List (List (Nat × Nat))→Bool
 | _,_,[]=>true
 | i,o :: L,e :: es=>e.all (fun p=>Nat.blt p.2 i) && (match o.guard with | some (j,_)=>Nat.blt j i | none=>true) && earlier (i+1) L es
 | _,[],_ :: _=>false
theorem argH_more {σ : AS} {acc more:List HR} {es:List (Nat × Nat)} (h:∀ p∈es,p.2<acc.length):argH σ (acc ++ more) es = argH σ acc es:=by
 funext x
 cases x with
 | tmp t =>
  show (match es.find? (fun p=>p.1 == t) with
   | some p=>match (acc ++ more)[p.2]? with
    | some h=>h.val
    | none=>.d anyD
   | none=>_) = (match es.find? (fun p=>p.1 == t) with
   | some p=>match acc[p.2]? with
    | some h=>h.val
    | none=>.d anyD
   | none=>_)
  cases hf:es.find? (fun p=>p.1 == t) with
  | none=>rfl
  | some p =>
   simp only
   rw [List.getElem?_append_left (h p (List.mem_of_find?_eq_some hf))]
 | const v=>rfl
 | global g=>rfl
 | func f=>rfl
theorem HStep.more {P : Program} {σ:AS} {acc more:List HR} {e:List (Nat × Nat)} {o:Oper} {r:HR} (h:HStep P σ acc e o r) (he:∀ p∈e,p.2<acc.length) (hg:∀ j b,o.guard = some (j,b)→j<acc.length):HStep P σ (acc ++ more) e o r:=by
 cases r with
 | av r =>
  rcases h with ⟨h1,h2⟩ | ⟨j,b,c,h1,h2,h3⟩
  ·exact .inl ⟨h1,by rw [argH_more he];exact h2⟩
  ·refine .inr ⟨j, b, c, h1, by rw [List.getElem?_append_left (hg j b h1)]; exact h2, ?_⟩
   rw [argH_more he]
   exact h3
 | new T cs=>exact h
theorem HS.steps {P : Program} {σ:AS} {K:List HR→Prop}:∀ {es:List (List (Nat × Nat))} {L:List Oper} {acc:List HR},earlier acc.length L es = true→HS P σ K acc L es→∃ more,more.length = es.length∧HSteps P σ (acc ++ more) L es more∧K (acc ++ more)
 | [],L,acc,_,h=>by
  refine ⟨[],rfl,HSteps.nil,?_⟩
  rw [List.append_nil]
  cases L <;> exact h
 | e :: es,[],acc,he,h=>by cases he
 | e :: es,o :: L,acc,he,h=>by
  obtain ⟨r,h1,acc',h2,h3⟩:=h
  have e1:=snocH_eq h2
  subst e1
  simp only [earlier,Bool.and_eq_true] at he
  obtain ⟨⟨he1,he2⟩,he3⟩:=he
  obtain ⟨more,h4,h5,h6⟩:=HS.steps (acc:=acc ++ [r]) (by simpa using he3) h3
  rw [List.append_assoc,List.singleton_append] at h5 h6
  refine ⟨r :: more,by simp [h4],⟨h1.more (fun p hp=>?_) fun j b hj=>?_,h5⟩,h6⟩
  ·have:=List.all_eq_true.1 he1 p hp
   simpa [Nat.blt_eq] using this
  ·rw [hj] at he2
   simpa [Nat.blt_eq] using he2
theorem AWp.dr' {P : Program} {s0:An} {n:Nat} {Q Q0:Exit→AS→Prop} {fr:List (Nat × AV)} {hp:List Ow} {id:Nat} {L0:Array Oper} {L:List Oper} (hm:DrawOk P s0 n id L0 L Q0 Q) (es:List (List (Nat × Nat))) (bs:List (List Nat)) (hlen:(es.length == bs.length && Nat.ble es.length L.length) = true) (hok:regOk L (shOf 0 es bs) = true) (hd:dstOk L es.length n = true) (hlt:earlier 0 L es = true)
  (h:HS P ⟨fr,hp⟩ (fun rs=>∃ τ,aftO fr hp es.length L rs = some τ∧AWl P s0 n L.toArray Q (L.drop es.length) τ) [] L es):AWp P s0 n (.region id L0 true) Q0 ⟨fr,hp⟩:=by
 obtain ⟨rs,h1,h2,τ,h3,h4⟩:=HS.steps (acc:=[]) hlt h
 simp only [List.nil_append] at h2 h3
 simp only [Bool.and_eq_true,beq_iff_eq] at hlen
 exact AWp.dr hm es bs rs (by simp only [Bool.and_eq_true,beq_iff_eq];exact ⟨⟨hlen.1,h1.symm⟩,by rw [h1];exact hlen.2⟩) hok hd h2 (by rw [h1];exact h3) h4
section
variable {P : Program} {hp:List Ow} {arg:Operand→AV} {dd:Option Tmp} {ty:TypeId} {ps:String} {af:Array Edge} {gd:Option (Nat × Bool)}
theorem Qs.lenN {α : Type} {x:Operand} {t:TypeId} {e n b T sz:Nat} {z:Value} {f:α→List D} {l:List α} (hx:asD hp (arg x) = some (slD T sz (l.map f))) (ht:Tab P t (.slice e) n b z):Quiet P hp ⟨dd,.call { callee:=.builtin .len,args:=#[x],argTypes:=#[t] },ty,ps,af,gd⟩ arg (.d (ex (.int .i64 (l.length:Nat)))):=Quiet.lenN (o:=⟨dd,.call { callee:=.builtin .len,args:=#[x],argTypes:=#[t] },ty,ps,af,gd⟩) rfl hx ht
theorem Qs.index0 {α : Type} {x y:Operand} {t:TypeId} {e n b n' b' T sz:Nat} {d:TypeDesc} {z z':Value} {f:α→List D} {a:α} {l:List α} {κ:IntKind} (hx:asD hp (arg x) = some (slD T sz ((a :: l).map f))) (hy:arg y = .d (ex (.int κ 0))) (ht:Tab P t (.slice e) n b z) (he:Tab P e d n' b' z') (hsz:n' = sz):Quiet P hp ⟨dd,.indexAddr t x y,ty,ps,af,gd⟩ arg (.d (epD T (f a))):=Quiet.index0 (o:=⟨dd,.indexAddr t x y,ty,ps,af,gd⟩) rfl hx hy ht he hsz
theorem Qs.tailN {α : Type} {x y:Operand} {t:TypeId} {e n b n' b' T sz:Nat} {d:TypeDesc} {z z':Value} {f:α→List D} {a:α} {l:List α} (hx:asD hp (arg x) = some (slD T sz ((a :: l).map f))) (hy:arg y = .d (ex (.int .i64 1))) (ht:Tab P t (.slice e) n b z) (he:Tab P e d n' b' z') (hsz:n' = sz):Quiet P hp ⟨dd,.slice t x (some y) none none,ty,ps,af,gd⟩ arg (.d (slD T sz (l.map f))):=Quiet.tailN (o:=⟨dd,.slice t x (some y) none none,ty,ps,af,gd⟩) rfl hx hy ht he hsz
theorem Qs.indexN {α : Type} [Inhabited α] {x y:Operand} {t:TypeId} {e n b n' b' T sz k:Nat} {d:TypeDesc} {z z':Value} {f:α→List D} {l:List α} {κ:IntKind} (hx:asD hp (arg x) = some (slD T sz (l.map f))) (hy:arg y = .d (ex (.int κ (k:Nat)))) (ht:Tab P t (.slice e) n b z) (he:Tab P e d n' b' z') (hsz:n' = sz) (hk:k<l.length):Quiet P hp ⟨dd,.indexAddr t x y,ty,ps,af,gd⟩ arg (.d (epD T (f (l.getD k default)))):=Quiet.indexN (o:=⟨dd,.indexAddr t x y,ty,ps,af,gd⟩) rfl hx hy ht he hsz hk
theorem Qs.add {T U:TypeId} {x y:Operand} {a b:Int} (hx:arg x = .d (ex (.int .i64 a))) (hy:arg y = .d (ex (.int .i64 b))) (h1:-9223372036854775808≤a+b) (h2:a+b≤9223372036854775807):Quiet P hp ⟨dd,.binOp .add T x y U,ty,ps,af,gd⟩ arg (.d (ex (.int .i64 (a+b)))):=Quiet.add (o:=⟨dd,.binOp .add T x y U,ty,ps,af,gd⟩) rfl hx hy h1 h2
theorem Qs.sub {T U:TypeId} {x y:Operand} {a b:Int} (hx:arg x = .d (ex (.int .i64 a))) (hy:arg y = .d (ex (.int .i64 b))) (h1:-9223372036854775808≤a - b) (h2:a - b≤9223372036854775807):Quiet P hp ⟨dd,.binOp .sub T x y U,ty,ps,af,gd⟩ arg (.d (ex (.int .i64 (a - b)))):=Quiet.sub (o:=⟨dd,.binOp .sub T x y U,ty,ps,af,gd⟩) rfl hx hy h1 h2
theorem Qs.mul {T U:TypeId} {x y:Operand} {a b:Int} (hx:arg x = .d (ex (.int .i64 a))) (hy:arg y = .d (ex (.int .i64 b))) (h1:-9223372036854775808≤a*b) (h2:a*b≤9223372036854775807):Quiet P hp ⟨dd,.binOp .mul T x y U,ty,ps,af,gd⟩ arg (.d (ex (.int .i64 (a*b)))):=Quiet.mul (o:=⟨dd,.binOp .mul T x y U,ty,ps,af,gd⟩) rfl hx hy h1 h2
theorem Qs.succ {T U:TypeId} {x y:Operand} {a:Nat} (hx:arg x = .d (ex (.int .i64 (a:Nat)))) (hy:arg y = .d (ex (.int .i64 1))) (h1:(a:Int)<9223372036854775807):Quiet P hp ⟨dd,.binOp .add T x y U,ty,ps,af,gd⟩ arg (.d (ex (.int .i64 ((a+1:Nat):Int)))):=Quiet.succ (o:=⟨dd,.binOp .add T x y U,ty,ps,af,gd⟩) rfl hx hy h1
theorem Qs.rem {T U:TypeId} {x y:Operand} {k:IntKind} {a b:Int} (hx:arg x = .d (ex (.int k a))) (hy:arg y = .d (ex (.int k b))) (h0:0≤a) (hb:0<b):Quiet P hp ⟨dd,.binOp .rem T x y U,ty,ps,af,gd⟩ arg (.d (ex (.int k (a % b)))):=Quiet.rem (o:=⟨dd,.binOp .rem T x y U,ty,ps,af,gd⟩) rfl hx hy h0 hb
theorem Qs.remT {T U:TypeId} {x y:Operand} {k:IntKind} {a b:Int} (hx:arg x = .d (ex (.int k a))) (hy:arg y = .d (ex (.int k b))) (hb:b ≠ 0):Quiet P hp ⟨dd,.binOp .rem T x y U,ty,ps,af,gd⟩ arg (.d (ex (.int k (a.tmod b)))):=Quiet.remT (o:=⟨dd,.binOp .rem T x y U,ty,ps,af,gd⟩) rfl hx hy hb
theorem Qs.cmp {op : BinOp} {T U:TypeId} {x y:Operand} {k:IntKind} {a b:Int} {c:Bool} (hx:arg x = .d (ex (.int k a))) (hy:arg y = .d (ex (.int k b))) (hc:cmpB op a b = some c):Quiet P hp ⟨dd,.binOp op T x y U,ty,ps,af,gd⟩ arg (.d (ex (.bool c))):=Quiet.cmp (o:=⟨dd,.binOp op T x y U,ty,ps,af,gd⟩) rfl hx hy hc
theorem Qs.cmpT {op : BinOp} {T U:TypeId} {x y:Operand} {k:IntKind} {a b:Int} (hb:isCmp op = true) (hx:arg x = .d (ex (.int k a))) (hy:arg y = .d (ex (.int k b))) (hc:cmpP op a b):Quiet P hp ⟨dd,.binOp op T x y U,ty,ps,af,gd⟩ arg (.d (ex (.bool true))):=Quiet.cmpT (o:=⟨dd,.binOp op T x y U,ty,ps,af,gd⟩) rfl hb hx hy hc
theorem Qs.cmpF {op : BinOp} {T U:TypeId} {x y:Operand} {k:IntKind} {a b:Int} (hb:isCmp op = true) (hx:arg x = .d (ex (.int k a))) (hy:arg y = .d (ex (.int k b))) (hc:¬ cmpP op a b):Quiet P hp ⟨dd,.binOp op T x y U,ty,ps,af,gd⟩ arg (.d (ex (.bool false))):=Quiet.cmpF (o:=⟨dd,.binOp op T x y U,ty,ps,af,gd⟩) rfl hb hx hy hc
theorem Qs.not {T : TypeId} {x:Operand} {a:Bool} (hx:arg x = .d (ex (.bool a))):Quiet P hp ⟨dd,.unOp .not T x,ty,ps,af,gd⟩ arg (.d (ex (.bool (!a)))):=Quiet.not (o:=⟨dd,.unOp .not T x,ty,ps,af,gd⟩) rfl hx
theorem Qs.pickT {c x y:Operand} {r:AV} (hx:arg x = r) (hc:arg c = .d (ex (.bool true))):Quiet P hp ⟨dd,.pick c x y,ty,ps,af,gd⟩ arg r:=Quiet.pickT (o:=⟨dd,.pick c x y,ty,ps,af,gd⟩) rfl hx hc
theorem Qs.pickF {c x y:Operand} {r:AV} (hy:arg y = r) (hc:arg c = .d (ex (.bool false))):Quiet P hp ⟨dd,.pick c x y,ty,ps,af,gd⟩ arg r:=Quiet.pickF (o:=⟨dd,.pick c x y,ty,ps,af,gd⟩) rfl hy hc
theorem Qs.conv {S T:TypeId} {x:Operand} {k k':IntKind} {a:Int} {d:TypeDesc} {n b n' b':Nat} {z z':Value} (hx:arg x = .d (ex (.int k a))) (hS:Tab P S d n b z) (hT:Tab P T (.int k') n' b' z'):Quiet P hp ⟨dd,.convert S T x,ty,ps,af,gd⟩ arg (.d (ex (.int k' (k'.wrap a)))):=Quiet.conv (o:=⟨dd,.convert S T x,ty,ps,af,gd⟩) rfl hx hS hT
theorem Qs.fldE {x : Operand} {S:TypeId} {fs:Array Field} {f n b n' b' T:Nat} {fd:Field} {d:TypeDesc} {z z':Value} {ds r:List D} (hx:arg x = .d (epD T ds)) (hS:Tab P S (.struct fs) n b z) (hf:fs[f]? = some fd) (he:Tab P fd.type d n' b' z') (hn:Nat.beq n' 0 = false) (hr:dropO fd.offset ds = some r):Quiet P hp ⟨dd,.fieldAddr S x f,ty,ps,af,gd⟩ arg (.d (epD T r)):=Quiet.fldE (o:=⟨dd,.fieldAddr S x f,ty,ps,af,gd⟩) rfl hx hS hf he hn hr
theorem Qs.fldP {x : Operand} {S:TypeId} {fs:Array Field} {f n b n' b' id off:Nat} {fd:Field} {d:TypeDesc} {z z':Value} (hx:arg x = .ptr id off) (hS:Tab P S (.struct fs) n b z) (hf:fs[f]? = some fd) (he:Tab P fd.type d n' b' z') (hn:Nat.beq n' 0 = false):Quiet P hp ⟨dd,.fieldAddr S x f,ty,ps,af,gd⟩ arg (.ptr id (off+fd.offset)):=Quiet.fldP (o:=⟨dd,.fieldAddr S x f,ty,ps,af,gd⟩) rfl hx hS hf he hn
theorem Qs.ldD {x : Operand} {t:TypeId} {d:TypeDesc} {n b T id off:Nat} {z:Value} {ds r:List D} (hx:arg x = .ptr id off) (hh:hp[id]? = some (.var T (ds.map .d))) (ht:Tab P t d n b z) (hd:isAg d = true) (hr:subO off n ds = some r):Quiet P hp ⟨dd,.load t x,ty,ps,af,gd⟩ arg (.d (agD r)):=Quiet.ldD (o:=⟨dd,.load t x,ty,ps,af,gd⟩) rfl hx hh ht hd hr
theorem Qs.ldD1 {x : Operand} {t:TypeId} {d:TypeDesc} {n b T id off:Nat} {z:Value} {ds:List D} {r:D} (hx:arg x = .ptr id off) (hh:hp[id]? = some (.var T (ds.map .d))) (ht:Tab P t d n b z) (hd:isAg d = false) (hr:atO off ds = some r):Quiet P hp ⟨dd,.load t x,ty,ps,af,gd⟩ arg (.d r):=Quiet.ldD1 (o:=⟨dd,.load t x,ty,ps,af,gd⟩) rfl hx hh ht hd hr
theorem Qs.loadP1 {x : Operand} {t:TypeId} {d:TypeDesc} {n b T id off:Nat} {z:Value} {cells:List AV} {r:AV} (hx:arg x = .ptr id off) (hh:hp[id]? = some (.var T cells)) (ht:Tab P t d n b z) (hd:isAg d = false) (hc:cells[off]? = some r):Quiet P hp ⟨dd,.load t x,ty,ps,af,gd⟩ arg r:=Quiet.loadP1 (o:=⟨dd,.load t x,ty,ps,af,gd⟩) rfl hx hh ht hd hc
theorem Qs.loadEf {x : Operand} {t:TypeId} {d:TypeDesc} {n b T:Nat} {z:Value} {ds:List D} (hx:arg x = .d (epD T ds)) (ht:Tab P t d n b z) (hd:isAg d = true) (hn:ds.length = n):Quiet P hp ⟨dd,.load t x,ty,ps,af,gd⟩ arg (.d (agD ds)):=Quiet.loadEf (o:=⟨dd,.load t x,ty,ps,af,gd⟩) rfl hx ht hd hn
theorem Qs.ldE {x : Operand} {t:TypeId} {d:TypeDesc} {n b T:Nat} {z:Value} {ds r:List D} (hx:arg x = .d (epD T ds)) (ht:Tab P t d n b z) (hd:isAg d = true) (hr:takeO n ds = some r):Quiet P hp ⟨dd,.load t x,ty,ps,af,gd⟩ arg (.d (agD r)):=Quiet.ldE (o:=⟨dd,.load t x,ty,ps,af,gd⟩) rfl hx ht hd hr
theorem Qs.ldE1 {x : Operand} {t:TypeId} {d:TypeDesc} {n b T:Nat} {z:Value} {ds:List D} {r:D} (hx:arg x = .d (epD T ds)) (ht:Tab P t d n b z) (hd:isAg d = false) (hr:atO 0 ds = some r):Quiet P hp ⟨dd,.load t x,ty,ps,af,gd⟩ arg (.d r):=Quiet.ldE1 (o:=⟨dd,.load t x,ty,ps,af,gd⟩) rfl hx ht hd hr
theorem Qs.ext {x : Operand} {i:Nat} {ds:List D} {r:D} (hx:arg x = .d (tupD ds)) (hr:atO i ds = some r):Quiet P hp ⟨dd,.extract x i,ty,ps,af,gd⟩ arg (.d r):=Quiet.ext (o:=⟨dd,.extract x i,ty,ps,af,gd⟩) rfl hx hr
theorem Qs.build {t : TypeId} {fs:Array Field} {n b:Nat} {z:Value} {parts:List (Nat × Operand)} {pl:List (Nat × Nat)} {r:List (Nat × List D)} {ds:List D} (ht:Tab P t (.struct fs) n b z) (hpl:FieldsT P fs.toList pl) (h1:one1 z.cells.toList = true) (hr:PartsA hp arg parts r) (hf:fillD (fun i=>pl[i]?) (exD' z.cells.toList) r = some ds):Quiet P hp ⟨dd,.build t parts.toArray,ty,ps,af,gd⟩ arg (.d (agD ds)):=Quiet.build (o:=⟨dd,.build t parts.toArray,ty,ps,af,gd⟩) rfl ht hpl h1 hr hf
theorem Qs.buildArr {t e:TypeId} {len n b n' b':Nat} {z z':Value} {d:TypeDesc} {parts:List (Nat × Operand)} {r:List (Nat × List D)} {ds:List D} (ht:Tab P t (.array len e) n b z) (he:Tab P e d n' b' z') (h1:one1 z.cells.toList = true) (hr:PartsA hp arg parts r) (hf:fillD (fun i=>some (i*n',n')) (exD' z.cells.toList) r = some ds):Quiet P hp ⟨dd,.build t parts.toArray,ty,ps,af,gd⟩ arg (.d (agD ds)):=Quiet.buildArr (o:=⟨dd,.build t parts.toArray,ty,ps,af,gd⟩) rfl ht he h1 hr hf
theorem Qs.buildSlice {t e:TypeId} {len n b n' b':Nat} {z z':Value} {d:TypeDesc} {parts:List (Nat × Operand)} {r:List (Nat × List D)} {ds:List D} (ht:Tab P t (.slice e) n b z) (he:Tab P e d n' b' z') (hlen:0<len) (hn:0<n') (hz:z'.cells.size = n') (h24:len*n'≤16777216) (h1:one1 z'.cells.toList = true) (hr:PartsA hp arg parts r) (hf:fillD (fun i=>some (i*n',n')) (List.replicate (len*n') anyD) r = some ds):Quiet P hp ⟨dd,.buildSlice t len parts.toArray,ty,ps,af,gd⟩ arg (.d (slD e n' (chunks n' len ds))):=Quiet.buildSlice (o:=⟨dd,.buildSlice t len parts.toArray,ty,ps,af,gd⟩) rfl ht he hlen hn hz h24 h1 hr hf
theorem Qs.max {x y:Operand} {tys:Array TypeId} {k:IntKind} {a b:Int} (hx:arg x = .d (ex (.int k a))) (hy:arg y = .d (ex (.int k b))):Quiet P hp ⟨dd,.call { callee:=.builtin .max,args:=#[x,y],argTypes:=tys },ty,ps,af,gd⟩ arg (.d (ex (.int k (Max.max a b)))):=Quiet.max (o:=⟨dd,.call { callee:=.builtin .max,args:=#[x,y],argTypes:=tys },ty,ps,af,gd⟩) rfl hx hy
theorem Qs.call {f : Operand} {args:List Operand} {tys:Array TypeId} {fid:FuncId} {ds:List D} {r:D} (hf:arg f = .d (ex (.func (.func fid) #[] #[]))) (hc:Abs P fid ds r) (ha:ArgsLe hp arg args ds):Quiet P hp ⟨dd,.call { callee:=.value f,args:=args.toArray,argTypes:=tys },ty,ps,af,gd⟩ arg (.d r):=Quiet.call (o:=⟨dd,.call { callee:=.value f,args:=args.toArray,argTypes:=tys },ty,ps,af,gd⟩) rfl hf hc ha
theorem Qs.move {x : Operand} {r:AV} (hx:arg x = r):Quiet P hp ⟨dd,.move x,ty,ps,af,gd⟩ arg r:=Quiet.move (.inl rfl) hx
theorem Qs.assign {x : Operand} {r:AV} (hx:arg x = r):Quiet P hp ⟨dd,.assign x,ty,ps,af,gd⟩ arg r:=Quiet.move (.inr rfl) hx
end
section
variable {P : Program} {s0:An} {n:Nat} {ops:Array Oper} {Q:Exit→AS→Prop} {rest:List Oper} {fr:List (Nat × AV)} {hp:List Ow} {ty:TypeId} {ps:String} {af:Array Edge}
theorem AWs.al {T : TypeId} {d:TypeDesc} {m b k t:Nat} {z:Value} {c:List D} {hp':List Ow} (ht:Tab P T d m b z) (hT:Nat.beq T 137 = false) (h1:one1 z.cells.toList = true) (hd:Nat.blt t n = true) (hc:exO z.cells.toList = some c) (hk:lenO hp = some k) (hs:snocO hp (.var T (c.map .d)) = some hp') (h:AWl P s0 n ops Q rest ⟨(t,.ptr k 0) :: fr,hp'⟩):AWl P s0 n ops Q (⟨some t,.alloc T,ty,ps,af,none⟩ :: rest) ⟨fr,hp⟩:=AWl.al (o:=⟨some t,.alloc T,ty,ps,af,none⟩) rfl rfl rfl ht hT h1 hd hc hk hs h
theorem AWs.bx {T : TypeId} {x:Operand} {ds:List D} {k t:Nat} {hp':List Ow} (hx:AS.arg ⟨fr,hp⟩ x = .d (agD ds)) (hT:Nat.beq T 137 = false) (hd:Nat.blt t n = true) (hk:lenO hp = some k) (hs:snocO hp (.var T (ds.map .d)) = some hp') (h:AWl P s0 n ops Q rest ⟨(t,.ptr k 0) :: fr,hp'⟩):AWl P s0 n ops Q (⟨some t,.box T x,ty,ps,af,none⟩ :: rest) ⟨fr,hp⟩:=AWl.bx (o:=⟨some t,.box T x,ty,ps,af,none⟩) rfl rfl rfl hx hT hd hk hs h
theorem AWs.stF {T T0:TypeId} {d:TypeDesc} {b id m:Nat} {z:Value} {x y:Operand} {cells:List AV} {ds:List D} {hp':List Ow} (hx:AS.arg ⟨fr,hp⟩ x = .ptr id 0) (hy:AS.arg ⟨fr,hp⟩ y = .d (agD ds)) (hh:hp[id]? = some (.var T0 cells)) (ht:Tab P T d m b z) (hm:ds.length = m) (hoff:cells.length = m) (hs:setO hp id (.var T0 (ds.map .d)) = some hp') (h:AWl P s0 n ops Q rest ⟨fr,hp'⟩):AWl P s0 n ops Q (⟨none,.store T x y,ty,ps,af,none⟩ :: rest) ⟨fr,hp⟩:=AWl.stF (o:=⟨none,.store T x y,ty,ps,af,none⟩) rfl rfl rfl hx hy hh ht hm hoff hs h
theorem AWs.app {x y:Operand} {t T T2 sz bytes id m b e:Nat} {z z':Value} {d:TypeDesc} {rows r2:List (List D)} {fr':List (Nat × AV)} {hp':List Ow} (hx:AS.arg ⟨fr,hp⟩ x = .own id) (hy:asD hp (AS.arg ⟨fr,hp⟩ y) = some (slD T2 sz r2)) (hh:hp[id]? = some (.row T sz rows)) (ht:Tab P t (.slice T) m b z') (hT:Tab P T d sz bytes z) (hzs:z.cells.size = sz) (hd:Nat.blt e n = true) (hbytes:(rows.length+r2.length)*bytes≤140737488355328) (h63:rows.length+r2.length≤4611686018427387904) (hf:downO id (slD T sz rows) fr = some fr') (hpl:PlainHp id hp) (hs:setO hp id (.row T sz (rows ++ r2)) = some hp') (h:AWl P s0 n ops Q rest ⟨(e,.own id) :: fr',hp'⟩):AWl P s0 n ops Q (⟨some e,.call { callee:=.builtin .append,args:=#[x,y],argTypes:=#[t,t] },ty,ps,af,none⟩ :: rest) ⟨fr,hp⟩:=AWl.app (o:=⟨some e,.call { callee:=.builtin .append,args:=#[x,y],argTypes:=#[t,t] },ty,ps,af,none⟩) rfl rfl rfl hx hy hh ht hT hzs hd hbytes h63 hf hpl hs h
theorem AWs.b0 {t T m b sz bytes k e:Nat} {z z':Value} {d:TypeDesc} {hp':List Ow} (ht:Tab P t (.slice T) m b z') (hT:Tab P T d sz bytes z) (hT32:Nat.beq T 137 = false) (h0:Nat.blt 0 sz = true) (hd:Nat.blt e n = true) (hk:lenO hp = some k) (hs:snocO hp (.row T sz []) = some hp') (h:AWl P s0 n ops Q rest ⟨(e,.own k) :: fr,hp'⟩):AWl P s0 n ops Q (⟨some e,.buildSlice t 0 #[],ty,ps,af,none⟩ :: rest) ⟨fr,hp⟩:=AWl.b0 (o:=⟨some e,.buildSlice t 0 #[],ty,ps,af,none⟩) rfl rfl rfl ht hT hT32 h0 hd hk hs h
theorem AWs.mk0 {t T m b sz bytes k e:Nat} {z z':Value} {d:TypeDesc} {x y:Operand} {c:Int} {hp':List Ow} (hx:AS.arg ⟨fr,hp⟩ x = .d (ex (.int .i64 0))) (hy:AS.arg ⟨fr,hp⟩ y = .d (ex (.int .i64 c))) (ht:Tab P t (.slice T) m b z') (hT:Tab P T d sz bytes z) (hc0:0≤c) (hc:c≤1000000000) (hbytes:Nat.ble bytes 65536 = true) (hT32:Nat.beq T 137 = false) (h0:Nat.blt 0 sz = true) (hd:Nat.blt e n = true) (hk:lenO hp = some k) (hs:snocO hp (.row T sz []) = some hp') (h:AWl P s0 n ops Q rest ⟨(e,.own k) :: fr,hp'⟩):AWl P s0 n ops Q (⟨some e,.makeSlice t x y,ty,ps,af,none⟩ :: rest) ⟨fr,hp⟩:=AWl.mk0 (o:=⟨some e,.makeSlice t x y,ty,ps,af,none⟩) rfl rfl rfl hx hy ht hT hc0 hc hbytes hT32 h0 hd hk hs h
theorem AWs.q {d : Nat} {op:Op} (hs:notSelect op = true) (hd:Nat.blt d n = true) (h:∃ r,Quiet P hp ⟨some d,op,ty,ps,af,none⟩ (AS.arg ⟨fr,hp⟩) r∧AWl P s0 n ops Q rest ⟨(d,r) :: fr,hp⟩):AWl P s0 n ops Q (⟨some d,op,ty,ps,af,none⟩ :: rest) ⟨fr,hp⟩:=AWl.q' rfl rfl hs hd h
theorem AWs.qG {d : Nat} {op:Op} {j:Nat} {b:Bool} {e:Nat} (hy:(ops[j]?).bind (·.dst) = some e) (hl:look fr e = some (.d (ex (.bool b)))) (hen:Nat.blt e n = true) (hs:notSelect op = true) (hd:Nat.blt d n = true) (h:∃ r,Quiet P hp ⟨some d,op,ty,ps,af,some (j,b)⟩ (AS.arg ⟨fr,hp⟩) r∧AWl P s0 n ops Q rest ⟨(d,r) :: fr,hp⟩):AWl P s0 n ops Q (⟨some d,op,ty,ps,af,some (j,b)⟩ :: rest) ⟨fr,hp⟩:=AWl.qG' rfl hy hl hen rfl hs hd h
theorem AWs.sG {d : Nat} {op:Op} {j:Nat} {b:Bool} {u:Value} {e:Nat} (hy:(ops[j]?).bind (·.dst) = some e) (hl:look fr e = some (.d (ex u))) (hne:isB u b = false) (hen:Nat.blt e n = true) (hd:Nat.blt d n = true) (h:AWl P s0 n ops Q rest ⟨(d,.d (ex undef)) :: fr,hp⟩):AWl P s0 n ops Q (⟨some d,op,ty,ps,af,some (j,b)⟩ :: rest) ⟨fr,hp⟩:=AWl.sG rfl hy hl hne hen rfl hd h
end
def plO : List Field→Option (List (Nat × Nat))
 | []=>some []
 | f :: l=>match tlook tyTab f.type with
  | some p=>match plO l with
   | some r=>some ((f.offset,p.n) :: r)
   | none=>none
  | none=>none
theorem plO_ok : ∀ {l:List Field} {r:List (Nat × Nat)},plO l = some r→FieldsT Tryz.prog l r
 | [],r,h=>by cases h;exact FieldsT.nil
 | f :: l,r,h=>by
  unfold plO at h
  cases ht:tlook tyTab f.type with
  | none=>rw [ht] at h;cases h
  | some p =>
   rw [ht] at h
   simp only at h
   cases hr:plO l with
   | none=>rw [hr] at h;cases h
   | some r' =>
    rw [hr] at h
    cases h
    obtain ⟨h1,h2⟩:=tlook_ok tab_all ht
    rw [h1] at h2
    exact FieldsT.cons h2 (plO_ok hr)
def PartOk (hp : List Ow) (av:AV) (es:List D):Prop:=av = .d (agD es)∨∃ y,asD hp av = some y∧One hp av∧es = [y]
theorem PartOk.ag {hp : List Ow} {av:AV} {es:List D} (h:av = .d (agD es)):PartOk hp av es:=.inl h
theorem PartOk.one {hp : List Ow} {av:AV} {y:D} (h:asD hp av = some y) (h1:One hp av):PartOk hp av [y]:=.inr ⟨y,h,h1,rfl⟩
def snocP : List (Nat × List D)→Nat × List D→Option (List (Nat × List D))
 | [],x=>some [x]
 | o :: l,x=>match snocP l x with
  | some r=>some (o :: r)
  | none=>none
theorem snocP_eq : ∀ {l:List (Nat × List D)} {x:Nat × List D} {r:List (Nat × List D)},snocP l x = some r→r = l ++ [x]
 | [],x,r,h=>by cases h;rfl
 | o :: l,x,r,h=>by
  unfold snocP at h
  split at h
  ·rename_i r' h'
   cases h
   rw [snocP_eq h']
   rfl
  ·cases h
def PC (hp : List Ow) (arg:Operand→AV) (K:List (Nat × List D)→Prop):List (Nat × List D)→List (Nat × Operand)→Prop
 | acc,[]=>K acc
 | acc,(i,x) :: l=>∃ es,PartOk hp (arg x) es∧∃ acc',snocP acc (i,es) = some acc'∧PC hp arg K acc' l
theorem PC.parts {hp : List Ow} {arg:Operand→AV} {K:List (Nat × List D)→Prop}:∀ {l:List (Nat × Operand)} {acc:List (Nat × List D)},PC hp arg K acc l→∃ r,PartsA hp arg l r∧K (acc ++ r)
 | [],acc,h=>⟨[],PartsA.nil,by rw [List.append_nil];exact h⟩
 | (i,x) :: l,acc,⟨es,h1,acc',h2,h3⟩=>by
  have e:=snocP_eq h2
  subst e
  obtain ⟨r,h4,h5⟩:=PC.parts h3
  rw [List.append_assoc,List.singleton_append] at h5
  exact ⟨(i,es) :: r,⟨rfl,h1,h4⟩,h5⟩
def fillO (place : Nat→Option (Nat × Nat)):List D→List (Nat × List D)→Option (List D)
 | ds,[]=>some ds
 | ds,(i,es) :: r=>match place i with
  | some (off,size)=>bif Nat.beq es.length size then match splO ds off es with
   | some ds'=>fillO place ds' r
   | none=>none else none
  | none=>none
theorem fillO_eq {place : Nat→Option (Nat × Nat)}:∀ {r:List (Nat × List D)} {ds x:List D},fillO place ds r = some x→fillD place ds r = some x
 | [],ds,x,h=>h
 | (i,es) :: r,ds,x,h=>by
  unfold fillO at h
  unfold fillD
  cases hp:place i with
  | none=>rw [hp] at h;cases h
  | some q =>
   obtain ⟨off,size⟩:=q
   rw [hp] at h
   simp only at h ⊢
   cases hb:Nat.beq es.length size with
   | false=>rw [hb] at h;cases h
   | true =>
    rw [hb] at h
    simp only [cond_true] at h
    cases hs:splO ds off es with
    | none=>rw [hs] at h;cases h
    | some ds' =>
     rw [hs] at h
     obtain ⟨e1,e2⟩:=splO_eq hs
     have e3:=Nat.eq_of_beq_eq_true hb
     have e4:Nat.ble (off+size) ds.length = true:=Nat.ble_eq_true_of_le (by omega)
     rw [e4,← e1]
     exact fillO_eq h
section
variable {P : Program} {hp:List Ow} {arg:Operand→AV} {dd:Option Tmp} {ty:TypeId} {ps:String} {af:Array Edge} {gd:Option (Nat × Bool)}
theorem Bq.build {t : TypeId} {fs:Array Field} {n b:Nat} {z:Value} {parts:List (Nat × Operand)} {pl:List (Nat × Nat)} {zs:List D} {R:AV→Prop} (ht:Tab Tryz.prog t (.struct fs) n b z) (hpl:plO fs.toList = some pl) (h1:one1 z.cells.toList = true) (hz:exO z.cells.toList = some zs) (h:PC hp arg (fun r=>∃ ds,fillO (fun i=>pl[i]?) zs r = some ds∧R (.d (agD ds))) [] parts):∃ r,Quiet Tryz.prog hp ⟨dd,.build t parts.toArray,ty,ps,af,gd⟩ arg r∧R r:=by
 obtain ⟨r,h2,ds,h3,h4⟩:=PC.parts h
 rw [exO_eq hz] at h3
 exact ⟨_,Qs.build ht (plO_ok hpl) h1 h2 (fillO_eq h3),h4⟩
theorem Bq.arr {t e:TypeId} {len n b n' b':Nat} {z z':Value} {d:TypeDesc} {parts:List (Nat × Operand)} {zs:List D} {R:AV→Prop} (ht:Tab P t (.array len e) n b z) (he:Tab P e d n' b' z') (h1:one1 z.cells.toList = true) (hz:exO z.cells.toList = some zs) (h:PC hp arg (fun r=>∃ ds,fillO (fun i=>some (i*n',n')) zs r = some ds∧R (.d (agD ds))) [] parts):∃ r,Quiet P hp ⟨dd,.build t parts.toArray,ty,ps,af,gd⟩ arg r∧R r:=by
 obtain ⟨r,h2,ds,h3,h4⟩:=PC.parts h
 rw [exO_eq hz] at h3
 exact ⟨_,Qs.buildArr ht he h1 h2 (fillO_eq h3),h4⟩
theorem Bq.slice {t e:TypeId} {len n b n' b':Nat} {z z':Value} {d:TypeDesc} {parts:List (Nat × Operand)} {R:AV→Prop} (ht:Tab P t (.slice e) n b z) (he:Tab P e d n' b' z') (hlen:Nat.blt 0 len = true) (hn:Nat.blt 0 n' = true) (hz:z'.cells.size = n') (h24:Nat.ble (len*n') 16777216 = true) (h1:one1 z'.cells.toList = true) (h:PC hp arg (fun r=>∃ ds,fillO (fun i=>some (i*n',n')) (List.replicate (len*n') anyD) r = some ds∧R (.d (slD e n' (chunks n' len ds)))) [] parts):∃ r,Quiet P hp ⟨dd,.buildSlice t len parts.toArray,ty,ps,af,gd⟩ arg r∧R r:=by
 obtain ⟨r,h2,ds,h3,h4⟩:=PC.parts h
 exact ⟨_,Qs.buildSlice ht he (by simpa [Nat.blt_eq] using hlen) (by simpa [Nat.blt_eq] using hn) hz (Nat.le_of_ble_eq_true h24) h1 h2 (fillO_eq h3),h4⟩
theorem Bq.slice1 {t e:TypeId} {n b n' b':Nat} {z z':Value} {d:TypeDesc} {x:Operand} {es:List D} (hx:arg x = .d (agD es)) (ht:Tab P t (.slice e) n b z) (he:Tab P e d n' b' z') (hl:es.length = n') (hn:Nat.blt 0 n' = true) (hz:z'.cells.size = n') (h24:Nat.ble n' 16777216 = true) (h1:one1 z'.cells.toList = true):Quiet P hp ⟨dd,.buildSlice t 1 #[(0,x)],ty,ps,af,gd⟩ arg (.d (slD e n' [es])):=by
 have hb:(Nat.beq es.length n' && Nat.ble (0*n'+n') (List.replicate (1*n') anyD).length) = true:=by
  simp [hl]
 have hf:fillD (fun i=>some (i*n',n')) (List.replicate (1*n') anyD) [(0,es)] = some es:=by
  simp only [fillD]
  rw [hb]
  simp only [cond_true,spl,Option.some.injEq]
  rw [Nat.zero_mul,List.take_zero,List.nil_append,List.drop_eq_nil_of_le (by simp [hl]),List.append_nil]
 have h:=Qs.buildSlice (P:=P) (hp:=hp) (dd:=dd) (ty:=ty) (ps:=ps) (af:=af) (gd:=gd) (len:=1) (parts:=[(0,x)]) (r:=[(0,es)]) ht he (by omega) (by simpa [Nat.blt_eq] using hn) hz (by have:=Nat.le_of_ble_eq_true h24;omega) h1 (PartsA.ag hx PartsA.nil) hf
 have e1:chunks n' 1 es = [es]:=by
  simp only [chunks]
  rw [← hl,List.take_length]
 rwa [e1] at h
theorem Hq {σ : AS} {acc:List HR} {e:List (Nat × Nat)} {o:Oper} {R:HR→Prop} (hg:o.guard = none) (h:∃ r,Quiet P σ.hp o (argH σ acc e) r∧R (.av r)):∃ r,HStep P σ acc e o r∧R r:=by
 obtain ⟨r,h1,h2⟩:=h
 exact ⟨_,HStep.q hg h1,h2⟩
end
section
variable {P : Program} {s0:An} {m:Nat} {ops:Array Oper} {Q:Exit→AS→Prop} {rest:List Oper} {σ:AS} {hp:List Ow} {arg:Operand→AV} {dd:Option Tmp} {ty:TypeId} {ps:String} {af:Array Edge} {gd:Option (Nat × Bool)} {R:AV→Prop} {H:HR→Prop} {acc:List HR} {e:List (Nat × Nat)}
theorem Gt.move {x : Operand} (h:∃ r,Quiet P hp ⟨dd,.move x,ty,ps,af,gd⟩ arg r∧R r):∃ r,Quiet P hp ⟨dd,.move x,ty,ps,af,gd⟩ arg r∧R r:=h
theorem Gh.move {x : Operand} (h:∃ r,HStep P σ acc e ⟨dd,.move x,ty,ps,af,gd⟩ r∧H r):∃ r,HStep P σ acc e ⟨dd,.move x,ty,ps,af,gd⟩ r∧H r:=h
theorem Gt.assign {x : Operand} (h:∃ r,Quiet P hp ⟨dd,.assign x,ty,ps,af,gd⟩ arg r∧R r):∃ r,Quiet P hp ⟨dd,.assign x,ty,ps,af,gd⟩ arg r∧R r:=h
theorem Gt.load {t : TypeId} {x:Operand} (h:∃ r,Quiet P hp ⟨dd,.load t x,ty,ps,af,gd⟩ arg r∧R r):∃ r,Quiet P hp ⟨dd,.load t x,ty,ps,af,gd⟩ arg r∧R r:=h
theorem Gh.load {t : TypeId} {x:Operand} (h:∃ r,HStep P σ acc e ⟨dd,.load t x,ty,ps,af,gd⟩ r∧H r):∃ r,HStep P σ acc e ⟨dd,.load t x,ty,ps,af,gd⟩ r∧H r:=h
theorem Gt.fieldAddr {t f:Nat} {x:Operand} (h:∃ r,Quiet P hp ⟨dd,.fieldAddr t x f,ty,ps,af,gd⟩ arg r∧R r):∃ r,Quiet P hp ⟨dd,.fieldAddr t x f,ty,ps,af,gd⟩ arg r∧R r:=h
theorem Gh.fieldAddr {t f:Nat} {x:Operand} (h:∃ r,HStep P σ acc e ⟨dd,.fieldAddr t x f,ty,ps,af,gd⟩ r∧H r):∃ r,HStep P σ acc e ⟨dd,.fieldAddr t x f,ty,ps,af,gd⟩ r∧H r:=h
theorem Gt.indexAddr {t : TypeId} {x y:Operand} (h:∃ r,Quiet P hp ⟨dd,.indexAddr t x y,ty,ps,af,gd⟩ arg r∧R r):∃ r,Quiet P hp ⟨dd,.indexAddr t x y,ty,ps,af,gd⟩ arg r∧R r:=h
theorem Gh.indexAddr {t : TypeId} {x y:Operand} (h:∃ r,HStep P σ acc e ⟨dd,.indexAddr t x y,ty,ps,af,gd⟩ r∧H r):∃ r,HStep P σ acc e ⟨dd,.indexAddr t x y,ty,ps,af,gd⟩ r∧H r:=h
theorem Gt.len {l : Array Operand} {ts:Array TypeId} (h:∃ r,Quiet P hp ⟨dd,.call { callee:=.builtin .len,args:=l,argTypes:=ts },ty,ps,af,gd⟩ arg r∧R r):∃ r,Quiet P hp ⟨dd,.call { callee:=.builtin .len,args:=l,argTypes:=ts },ty,ps,af,gd⟩ arg r∧R r:=h
theorem Gt.callv {f : Operand} {l:Array Operand} {ts:Array TypeId} (h:∃ r,Quiet P hp ⟨dd,.call { callee:=.value f,args:=l,argTypes:=ts },ty,ps,af,gd⟩ arg r∧R r):∃ r,Quiet P hp ⟨dd,.call { callee:=.value f,args:=l,argTypes:=ts },ty,ps,af,gd⟩ arg r∧R r:=h
theorem Gh.callv {f : Operand} {l:Array Operand} {ts:Array TypeId} (h:∃ r,HStep P σ acc e ⟨dd,.call { callee:=.value f,args:=l,argTypes:=ts },ty,ps,af,gd⟩ r∧H r):∃ r,HStep P σ acc e ⟨dd,.call { callee:=.value f,args:=l,argTypes:=ts },ty,ps,af,gd⟩ r∧H r:=h
theorem Gt.add {t u:TypeId} {x y:Operand} (h:∃ r,Quiet P hp ⟨dd,.binOp .add t x y u,ty,ps,af,gd⟩ arg r∧R r):∃ r,Quiet P hp ⟨dd,.binOp .add t x y u,ty,ps,af,gd⟩ arg r∧R r:=h
theorem Gt.sub {t u:TypeId} {x y:Operand} (h:∃ r,Quiet P hp ⟨dd,.binOp .sub t x y u,ty,ps,af,gd⟩ arg r∧R r):∃ r,Quiet P hp ⟨dd,.binOp .sub t x y u,ty,ps,af,gd⟩ arg r∧R r:=h
theorem Gt.rem {t u:TypeId} {x y:Operand} (h:∃ r,Quiet P hp ⟨dd,.binOp .rem t x y u,ty,ps,af,gd⟩ arg r∧R r):∃ r,Quiet P hp ⟨dd,.binOp .rem t x y u,ty,ps,af,gd⟩ arg r∧R r:=h
theorem Gh.rem {t u:TypeId} {x y:Operand} (h:∃ r,HStep P σ acc e ⟨dd,.binOp .rem t x y u,ty,ps,af,gd⟩ r∧H r):∃ r,HStep P σ acc e ⟨dd,.binOp .rem t x y u,ty,ps,af,gd⟩ r∧H r:=h
theorem Gt.bin {op : BinOp} {t u:TypeId} {x y:Operand} (h:∃ r,Quiet P hp ⟨dd,.binOp op t x y u,ty,ps,af,gd⟩ arg r∧R r):∃ r,Quiet P hp ⟨dd,.binOp op t x y u,ty,ps,af,gd⟩ arg r∧R r:=h
theorem Gt.un {op : UnOp} {t:TypeId} {x:Operand} (h:∃ r,Quiet P hp ⟨dd,.unOp op t x,ty,ps,af,gd⟩ arg r∧R r):∃ r,Quiet P hp ⟨dd,.unOp op t x,ty,ps,af,gd⟩ arg r∧R r:=h
theorem Gt.ext {x : Operand} {i:Nat} (h:∃ r,Quiet P hp ⟨dd,.extract x i,ty,ps,af,gd⟩ arg r∧R r):∃ r,Quiet P hp ⟨dd,.extract x i,ty,ps,af,gd⟩ arg r∧R r:=h
theorem Gh.ext {x : Operand} {i:Nat} (h:∃ r,HStep P σ acc e ⟨dd,.extract x i,ty,ps,af,gd⟩ r∧H r):∃ r,HStep P σ acc e ⟨dd,.extract x i,ty,ps,af,gd⟩ r∧H r:=h
theorem Gt.pick {c x y:Operand} (h:∃ r,Quiet P hp ⟨dd,.pick c x y,ty,ps,af,gd⟩ arg r∧R r):∃ r,Quiet P hp ⟨dd,.pick c x y,ty,ps,af,gd⟩ arg r∧R r:=h
theorem Gt.build {t : TypeId} {pp:Array (Nat × Operand)} (h:∃ r,Quiet P hp ⟨dd,.build t pp,ty,ps,af,gd⟩ arg r∧R r):∃ r,Quiet P hp ⟨dd,.build t pp,ty,ps,af,gd⟩ arg r∧R r:=h
theorem Gh.build {t : TypeId} {pp:Array (Nat × Operand)} (h:∃ r,HStep P σ acc e ⟨dd,.build t pp,ty,ps,af,gd⟩ r∧H r):∃ r,HStep P σ acc e ⟨dd,.build t pp,ty,ps,af,gd⟩ r∧H r:=h
theorem Gh.bslice {t n:Nat} {pp:Array (Nat × Operand)} (h:∃ r,HStep P σ acc e ⟨dd,.buildSlice t n pp,ty,ps,af,gd⟩ r∧H r):∃ r,HStep P σ acc e ⟨dd,.buildSlice t n pp,ty,ps,af,gd⟩ r∧H r:=h
theorem Gh.conv {t u:TypeId} {x:Operand} (h:∃ r,HStep P σ acc e ⟨dd,.convert t u x,ty,ps,af,gd⟩ r∧H r):∃ r,HStep P σ acc e ⟨dd,.convert t u x,ty,ps,af,gd⟩ r∧H r:=h
theorem Ga.alloc {t : TypeId} (h:AWl P s0 m ops Q (⟨dd,.alloc t,ty,ps,af,gd⟩ :: rest) σ):AWl P s0 m ops Q (⟨dd,.alloc t,ty,ps,af,gd⟩ :: rest) σ:=h
theorem Ga.store {t : TypeId} {x y:Operand} (h:AWl P s0 m ops Q (⟨dd,.store t x y,ty,ps,af,gd⟩ :: rest) σ):AWl P s0 m ops Q (⟨dd,.store t x y,ty,ps,af,gd⟩ :: rest) σ:=h
theorem Ga.box {t : TypeId} {x:Operand} (h:AWl P s0 m ops Q (⟨dd,.box t x,ty,ps,af,gd⟩ :: rest) σ):AWl P s0 m ops Q (⟨dd,.box t x,ty,ps,af,gd⟩ :: rest) σ:=h
theorem Ga.b0 {t : TypeId} (h:AWl P s0 m ops Q (⟨dd,.buildSlice t 0 #[],ty,ps,af,gd⟩ :: rest) σ):AWl P s0 m ops Q (⟨dd,.buildSlice t 0 #[],ty,ps,af,gd⟩ :: rest) σ:=h
theorem Gc.cond {c : Operand} {x y:Code} (h:AWp P s0 m (.cond c x y) Q σ):AWp P s0 m (.cond c x y) Q σ:=h
end
structure CellAt (ds : List D) (off:Nat) (u:D):Prop where
 lt:off<ds.length
 eq:dAt ds off = u
structure SetAt (ds : List D) (off:Nat) (es ds':List D):Prop where
 le:off+es.length≤ds.length
 eq:spl ds off es = ds'
theorem CellAt.mon {a : Nat→Int} {k:Nat} (h:k<8):CellAt (monC a) k (ex (.int .i64 (a k))):=⟨h,monC_at h⟩
theorem CellAt.mon0 {a : Nat→Int} {k:Nat} (h:k<8):CellAt (monC a) (0+k*1) (ex (.int .i64 (a k))):=by rw [Nat.zero_add,Nat.mul_one];exact .mon h
theorem CellAt.tm {c : Rat} {a:Nat→Int} {k:Nat} (h:k<8):CellAt (ratC c ++ monC a) (0+4+k*1) (ex (.int .i64 (a k))):=by
 have e:dAt (ratC c ++ monC a) (4+k) = dAt (monC a) k:=by rw [show 4+k = k+4 by omega];rfl
 rw [Nat.zero_add,Nat.mul_one]
 exact ⟨by rw [List.length_append,ratC_length,monC_length];omega,e.trans (monC_at h)⟩
theorem monC_setM {a : Nat→Int} {k:Nat} {z:Int} (h:k<8):spl (monC a) k [ex (.int .i64 z)] = monC (setM a k z):=by
 match k,h with
 | 0,_=>rfl
 | 1,_=>rfl
 | 2,_=>rfl
 | 3,_=>rfl
 | 4,_=>rfl
 | 5,_=>rfl
 | 6,_=>rfl
 | 7,_=>rfl
theorem SetAt.mon {a : Nat→Int} {k:Nat} {z:Int} (h:k<8):SetAt (monC a) (0+k*1) [ex (.int .i64 z)] (monC (setM a k z)):=by
 rw [Nat.zero_add,Nat.mul_one]
 exact ⟨h,monC_setM h⟩
section
variable {P : Program} {hp:List Ow} {arg:Operand→AV} {dd:Option Tmp} {ty:TypeId} {ps:String} {af:Array Edge} {gd:Option (Nat × Bool)}
theorem Qs.ixP {x y:Operand} {t:TypeId} {e n b n' b' len id off k:Nat} {d:TypeDesc} {z z':Value} {κ:IntKind} (hx:arg x = .ptr id off) (hy:arg y = .d (ex (.int κ ((k:Nat):Int)))) (ht:Tab P t (.array len e) n b z) (he:Tab P e d n' b' z') (hk:k<len):Quiet P hp ⟨dd,.indexAddr t x y,ty,ps,af,gd⟩ arg (.ptr id (off+k*n')) :=
 Quiet.indexP (o:=⟨dd,.indexAddr t x y,ty,ps,af,gd⟩) rfl hx hy ht he (by omega) (by omega)
theorem Qs.ixE {x y:Operand} {t:TypeId} {e n b n' b' len T k:Nat} {d:TypeDesc} {z z':Value} {ds:List D} {κ:IntKind} (hx:arg x = .d (epD T ds)) (hy:arg y = .d (ex (.int κ ((k:Nat):Int)))) (ht:Tab P t (.array len e) n b z) (he:Tab P e d n' b' z') (hk:k<len):Quiet P hp ⟨dd,.indexAddr t x y,ty,ps,af,gd⟩ arg (.d (epD T (ds.drop (k*n')))) :=
 Quiet.indexE (o:=⟨dd,.indexAddr t x y,ty,ps,af,gd⟩) rfl hx hy ht he (by omega) (by omega)
theorem Qs.pred {T U:TypeId} {x y:Operand} {a:Nat} (hx:arg x = .d (ex (.int .i64 ((a:Nat):Int)))) (hy:arg y = .d (ex (.int .i64 1))) (h0:0<a) (h1:(a:Int)<9223372036854775807):Quiet P hp ⟨dd,.binOp .sub T x y U,ty,ps,af,gd⟩ arg (.d (ex (.int .i64 ((a - 1:Nat):Int)))):=by
 have:=Quiet.sub (P:=P) (hp:=hp) (o:=⟨dd,.binOp .sub T x y U,ty,ps,af,gd⟩) rfl hx hy (by omega) (by omega)
 rwa [show (a:Int) - 1 = ((a - 1:Nat):Int) by omega] at this
theorem Qs.ldX1 {x : Operand} {t:TypeId} {d:TypeDesc} {n b T id off:Nat} {z:Value} {ds:List D} {u:D} (hx:arg x = .ptr id off) (hh:hp[id]? = some (.var T (ds.map .d))) (ht:Tab P t d n b z) (hd:isAg d = false) (hc:CellAt ds off u):Quiet P hp ⟨dd,.load t x,ty,ps,af,gd⟩ arg (.d u):=by
 have:=Quiet.loadD1 (P:=P) (o:=⟨dd,.load t x,ty,ps,af,gd⟩) rfl hx hh ht hd hc.lt
 rwa [hc.eq] at this
theorem Qs.ldEX1 {x : Operand} {t:TypeId} {d:TypeDesc} {n b T:Nat} {z:Value} {ds:List D} {u:D} (hx:arg x = .d (epD T ds)) (ht:Tab P t d n b z) (hd:isAg d = false) (hc:CellAt ds 0 u):Quiet P hp ⟨dd,.load t x,ty,ps,af,gd⟩ arg (.d u):=by
 have:=Quiet.loadE1 (P:=P) (hp:=hp) (o:=⟨dd,.load t x,ty,ps,af,gd⟩) rfl hx ht hd hc.lt
 rwa [hc.eq] at this
theorem Qs.atX1 {x y:Operand} {t:TypeId} {e n b b' len k:Nat} {d:TypeDesc} {z z':Value} {ds:List D} {u:D} {κ:IntKind} (hx:arg x = .d (agD ds)) (hy:arg y = .d (ex (.int κ ((k:Nat):Int)))) (ht:Tab P t (.array len e) n b z) (he:Tab P e d 1 b' z') (hd:isAg d = false) (hk:k<len) (hc:CellAt ds k u):Quiet P hp ⟨dd,.index t x y,ty,ps,af,gd⟩ arg (.d u):=by
 have:=Quiet.at1 (P:=P) (hp:=hp) (o:=⟨dd,.index t x y,ty,ps,af,gd⟩) rfl hx hy ht he hd (by omega) (by omega) (by have:=hc.lt;omega)
 rw [show ((k:Nat):Int).toNat = k from rfl,hc.eq] at this
 exact this
theorem eqMon_run (a b : Nat → Int) {x y : Operand} (w : World) : (do eqGuard .eql 31 x y (.agg (c8 a)) (.agg (c8 b)); binOp .eql 31 (.agg (c8 a)) (.agg (c8 b)) : Sem Value).run Tryz.prog w = .ok (.bool (eqB a b)) w := by
 have heq:(Op.equalIn Op.maxDepth 31 (.agg (c8 a)) (.agg (c8 b))).run Tryz.prog w = .ok (eqB a b) w:=run_eq_mono a b w
 simp [eqGuard,binOp,Op.equal,heq]
theorem Quiet.binO {op : BinOp} {T U : TypeId} {x y : Operand} {dx dy : D} {a b v : Value} {o : Oper} (hop : o.op = .binOp op T x y U) (hx : arg x = .d dx) (hy : arg y = .d dy) (ha : ∀ s u, dx.rel s u → u = a) (hb : ∀ s u, dy.rel s u → u = b) (hr : ∀ w, (do eqGuard op T x y a b; binOp op T a b : Sem Value).run P w = .ok v w) : Quiet P hp o arg (.d (ex v)) := by
 refine ⟨fun base s ρ ev hok hbs hhp h=>?_⟩
 have h1:=h x (by rw [hop];simp [Op.operands])
 have h2:=h y (by rw [hop];simp [Op.operands])
 rw [hx] at h1;rw [hy] at h2
 have e1:=ha s _ h1
 have e2:=hb s _ h2
 have:=hr s.w
 refine opG_val (v:=v) ?_ ⟨GS.Le.refl s,rfl⟩
 simp only [execOp,hop,e1,e2,Sem.run_bind,this,Result.andThen_ok,Sem.run_pure]
theorem Qs.eqMon {x y:Operand} {U:TypeId} {a b:Nat→Int} (hx:arg x = .d (agD (monC a))) (hy:arg y = .d (agD (monC b))):Quiet Tryz.prog hp ⟨dd,.binOp .eql 31 x y U,ty,ps,af,gd⟩ arg (.d (ex (.bool (eqB a b)))) :=
 Quiet.binO rfl hx hy (fun _ _ h=>monC_open h) (fun _ _ h=>monC_open h) fun w=>eqMon_run a b w
theorem Qs.eqMonT {x y:Operand} {U:TypeId} {a b:Nat→Int} (hx:arg x = .d (agD (monC a))) (hy:arg y = .d (agD (monC b))) (h:eqB a b = true):Quiet Tryz.prog hp ⟨dd,.binOp .eql 31 x y U,ty,ps,af,gd⟩ arg (.d (ex (.bool true))):=by
 rw [← h];exact Qs.eqMon hx hy
theorem Qs.neBool {x y:Operand} {T U:TypeId} {a b:Bool} (hx:arg x = .d (ex (.bool a))) (hy:arg y = .d (ex (.bool b))) (hT:P.underlying T = some .bool):Quiet P hp ⟨dd,.binOp .neq T x y U,ty,ps,af,gd⟩ arg (.d (ex (.bool (!(a == b))))) :=
 Quiet.bin (o:=⟨dd,.binOp .neq T x y U,ty,ps,af,gd⟩) rfl hx hy fun w=>by
  have heq:(Op.equalIn Op.maxDepth T (.bool a) (.bool b)).run P w = .ok (a == b) w:=run_equalIn_bool w 9999 T a b hT
  simp [eqGuard,binOp,Op.equal,heq]
end
section
variable {P : Program} {s0:An} {n:Nat} {ops:Array Oper} {Q:Exit→AS→Prop} {rest:List Oper} {fr:List (Nat × AV)} {hp:List Ow} {ty:TypeId} {ps:String} {af:Array Edge}
theorem AWs.stX {T T0:TypeId} {d:TypeDesc} {b id m off:Nat} {z:Value} {x y:Operand} {cs ds cs':List D} {hp':List Ow} (hx:AS.arg ⟨fr,hp⟩ x = .ptr id off) (hy:AS.arg ⟨fr,hp⟩ y = .d (agD ds)) (hh:hp[id]? = some (.var T0 (cs.map .d))) (ht:Tab P T d m b z) (hm:ds.length = m) (hc:SetAt cs off ds cs') (hs:setO hp id (.var T0 (cs'.map .d)) = some hp')
  (h:AWl P s0 n ops Q rest ⟨fr,hp'⟩):AWl P s0 n ops Q (⟨none,.store T x y,ty,ps,af,none⟩ :: rest) ⟨fr,hp⟩:=by
 refine AWl.storeD (o:=⟨none,.store T x y,ty,ps,af,none⟩) rfl rfl rfl hx hy hh ht hm (by rw [← hm];exact Nat.ble_eq_true_of_le hc.le) ?_
 rw [setO_eq hs,← hc.eq] at h
 exact h
theorem AWs.stX1 {T T0:TypeId} {d:TypeDesc} {b id off:Nat} {z:Value} {x y:Operand} {cs cs':List D} {u:D} {hp':List Ow} (hx:AS.arg ⟨fr,hp⟩ x = .ptr id off) (hy:AS.arg ⟨fr,hp⟩ y = .d u) (hh:hp[id]? = some (.var T0 (cs.map .d))) (ht:Tab P T d 1 b z) (h1:One hp (.d u)) (hc:SetAt cs off [u] cs') (hs:setO hp id (.var T0 (cs'.map .d)) = some hp')
  (h:AWl P s0 n ops Q rest ⟨fr,hp'⟩):AWl P s0 n ops Q (⟨none,.store T x y,ty,ps,af,none⟩ :: rest) ⟨fr,hp⟩:=by
 have hlt:off<cs.length:=hc.le
 refine AWl.storeD1 (o:=⟨none,.store T x y,ty,ps,af,none⟩) rfl rfl rfl hx hy hh ht h1 hlt ?_
 have e1:=hc.eq
 have:spl cs off [u] = cs.set off u:=by
  unfold spl
  rw [List.set_eq_take_append_cons_drop,if_pos hlt]
  rfl
 rw [this] at e1
 rw [setO_eq hs,← e1] at h
 exact h
end
theorem setO_same : ∀ {hp hp':List Ow} {i:Nat} {x:Ow},hp[i]? = some x→setO hp i x = some hp'→hp' = hp
 | [],_,_,_,h,_=>by cases h
 | o :: l,hp',0,x,h,h'=>by cases h;cases h';rfl
 | o :: l,hp',i+1,x,h,h'=>by
  unfold setO at h'
  split at h'
  ·rename_i r hr
   cases h'
   rw [setO_same (by simpa using h) hr]
  ·cases h'
theorem AWl.fold {P : Program} {s0:An} {n:Nat} {ops:Array Oper} {Q:Exit→AS→Prop} {l:List Oper} {fr:List (Nat × AV)} {hp hp':List Ow} {T:TypeId} {cs:List D} (id:Nat) (cs':List D) (hh:hp[id]? = some (.var T (cs.map .d))) (he:cs = cs') (hs:setO hp id (.var T (cs'.map .d)) = some hp') (h:AWl P s0 n ops Q l ⟨fr,hp'⟩):AWl P s0 n ops Q l ⟨fr,hp⟩:=by
 subst he
 rw [setO_same hh hs] at h
 exact h
theorem D.le.trans {x y z:D} (h:D.le x y) (h':D.le y z):D.le x z:=fun s v hv=>h' s v (h s v hv)
theorem D.le.tup2 {x y x' y':D} (h:D.le x x') (h':D.le y y'):D.le (tupD [x,y]) (tupD [x',y']):=fun s v hv=>by
 obtain ⟨vs,e,hl,hk⟩:=hv
 refine ⟨vs,e,hl,fun k hk'=>?_⟩
 obtain ⟨u,h1,h2⟩:=hk k hk'
 match k,hk' with
 | 0,_=>exact ⟨u,h1,h s u h2⟩
 | 1,_=>exact ⟨u,h1,h' s u h2⟩
 | k+2,hk'=>exact absurd hk' (by simp)
theorem D.le_pol {P Q:List Tm} (h:P = Q):D.le (polD P) (polD Q):=D.le.of_eq (by rw [h])
theorem D.le_nilP : D.le (ex (.slice none 0 0)) (polD []):=D.le_nil
section
variable {P : Program} {hp:List Ow} {arg:Operand→AV} {dd:Option Tmp} {ty:TypeId} {ps:String} {af:Array Edge} {gd:Option (Nat × Bool)}
theorem Qs.lenW {x : Operand} {t:TypeId} {e n b:Nat} {z:Value} {l:List Nat} (hx:arg x = .d (wD l)) (ht:Tab P t (.slice e) n b z):Quiet P hp ⟨dd,.call { callee:=.builtin .len,args:=#[x],argTypes:=#[t] },ty,ps,af,gd⟩ arg (.d (ex (.int .i64 (l.length:Nat)))):=by
 refine ⟨fun base s ρ ev hok hbs hhp h=>?_⟩
 have h1:=h x (by simp [Op.operands,Call.operands])
 rw [hx] at h1
 obtain ⟨A,c,e1,h2⟩:=h1.1
 rw [List.length_map] at e1
 refine opG_val (v:=.int .i64 l.length) ?_ ⟨GS.Le.refl s,rfl⟩
 simp [execOp,resolve,invoke,builtin,e1,Builtin.len_,run_underlying ht.und,goInt]
theorem Qs.indexW {x y:Operand} {t:TypeId} {e n b b' k:Nat} {d:TypeDesc} {z z':Value} {l:List Nat} {κ:IntKind} (hx:arg x = .d (wD l)) (hy:arg y = .d (ex (.int κ ((k:Nat):Int)))) (ht:Tab P t (.slice e) n b z) (he:Tab P e d 1 b' z') (hk:k<l.length):Quiet P hp ⟨dd,.indexAddr t x y,ty,ps,af,gd⟩ arg (.d (epD 137 [ex (.int .u32 (l.getD k 0:Nat))])):=by
 refine ⟨fun base s ρ ev hok hbs hhp h=>?_⟩
 have h1:=h x (by simp [Op.operands])
 have h2:=h y (by simp [Op.operands])
 rw [hx] at h1;rw [hy] at h2
 have e2:ev y = .int κ ((k:Nat):Int):=h2
 obtain ⟨A,c,e1,h3,h4,h5⟩:=h1.1
 rw [List.length_map] at e1 h5
 obtain ⟨g,p,rfl,h6⟩:=h5 (by omega)
 have h7:=(h6 k hk).2
 have e3:(l.map fun x=>[ex (.int .u32 (x:Nat))]).getD k [] = [ex (.int .u32 (l.getD k 0:Nat))]:=by
  simp [List.getD_eq_getElem?_getD,hk]
 rw [e3] at h7
 refine opG_val (v:=.pointer (some ⟨g,p+k*1,none⟩)) ?_ ⟨GS.Le.refl s,g,_,rfl,h7⟩
 have hb:k<l.length:=hk
 simp [execOp,e1,e2,Instr.indexAt,asIntOf,run_underlying ht.und,hb,he.run_size,Addr.add_lit]
end
theorem isOne_abs (z : Int):Abs Tryz.prog 125 [agD (intC z)] (ex (.bool (decide (z = 1)))):=by
 refine Abs.of_old (callFunc_run Tryz.func125 (by kernel_rfl) (by kernel_rfl)) fun s vs hok hl hv=>?_
 rw [vs1 hl]
 obtain ⟨x0,X0,n0,c0,e0,h0⟩:=intC_open (hv 0 (by simp))
 rw [e0]
 exact (isOne_any x0 X0 n0 c0 z _ h0).mono fun e w' ⟨he,hE⟩=>⟨_,he,hE,fun s' hw hok' _ _=>rfl⟩
theorem sgn_abs (z : Int):Abs Tryz.prog 124 [agD (intC z)] (ex (.int .i64 z.sign)):=by
 refine Abs.of_old (callFunc_run Tryz.func124 (by kernel_rfl) (by kernel_rfl)) fun s vs hok hl hv=>?_
 rw [vs1 hl]
 obtain ⟨x0,X0,n0,c0,e0,h0⟩:=intC_open (hv 0 (by simp))
 rw [e0]
 exact (sign_any x0 X0 n0 c0 z _ h0).mono fun e w' ⟨he,hE⟩=>⟨_,he,hE,fun s' hw hok' _ _=>rfl⟩
theorem gcd_abs (x y:Int) (hn:(digs x.natAbs).length≤4398046511104) (hn':(digs y.natAbs).length≤4398046511104):Abs Tryz.prog 126 [agD (intC x),agD (intC y)] (agD (intC (Nat.gcd x.natAbs y.natAbs:Nat))):=by
 refine Abs.of_old (callFunc_run Tryz.func126 (by kernel_rfl) (by kernel_rfl)) fun s vs hok hl hv=>?_
 rw [vs2 hl]
 obtain ⟨x0,X0,n0,c0,e0,h0⟩:=intC_open (hv 0 (by simp))
 obtain ⟨x1,X1,n1,c1,e1,h1⟩:=intC_open (hv 1 (by simp))
 rw [e0,e1]
 exact (gcd_any x0 x1 X0 X1 n0 c0 n1 c1 x y _ h0 h1 hn hn').mono fun e w' ⟨y,Y,m,k,he,hI,hE⟩=>⟨_,he,hE,fun s' hw hok' _ _=>by subst hw;exact intC_mk hok' hI⟩
section
variable {P : Program} {hp:List Ow} {arg:Operand→AV} {dd:Option Tmp} {ty:TypeId} {ps:String} {af:Array Edge} {gd:Option (Nat × Bool)}
theorem Qs.neg {T : TypeId} {x:Operand} {a:Int} (hx:arg x = .d (ex (.int .i64 a))) (h1:-9223372036854775807≤a) (h2:a≤9223372036854775807):Quiet P hp ⟨dd,.unOp .neg T x,ty,ps,af,gd⟩ arg (.d (ex (.int .i64 (-a)))):=by
 refine ⟨fun base s ρ ev hok hbs hhp h=>?_⟩
 have h3:=h x (by simp [Op.operands])
 rw [hx] at h3
 have e1:ev x = .int .i64 a:=h3
 have e2:IntKind.i64.wrap (-a) = -a:=IntWalk.i64_in _ (by omega)
 exact opG_val (v:=.int .i64 (-a)) (by simp [execOp,e1,Op.unary,Op.intArith,e2]) ⟨GS.Le.refl s,rfl⟩
theorem Qs.conv64 {S T:TypeId} {x:Operand} {k:IntKind} {a:Int} {d:TypeDesc} {n b n' b':Nat} {z z':Value} (hx:arg x = .d (ex (.int k a))) (hS:Tab P S d n b z) (hT:Tab P T (.int .i64) n' b' z') (h1:-9223372036854775808≤a) (h2:a≤9223372036854775807):Quiet P hp ⟨dd,.convert S T x,ty,ps,af,gd⟩ arg (.d (ex (.int .i64 a))):=by
 have:=Qs.conv (hp:=hp) (dd:=dd) (ty:=ty) (ps:=ps) (af:=af) (gd:=gd) hx hS hT
 rwa [IntWalk.i64_in _ (by omega)] at this
theorem Qs.succL {T U:TypeId} {x y:Operand} {a:Nat} (hx:arg x = .d (ex (.int .i64 1))) (hy:arg y = .d (ex (.int .i64 (a:Nat)))) (h1:(a:Int)<9223372036854775807):Quiet P hp ⟨dd,.binOp .add T x y U,ty,ps,af,gd⟩ arg (.d (ex (.int .i64 ((a+1:Nat):Int)))):=by
 have:=Qs.add (P:=P) (hp:=hp) (dd:=dd) (ty:=ty) (ps:=ps) (af:=af) (gd:=gd) (T:=T) (U:=U) hx hy (by omega) (by omega)
 rwa [show (1:Int)+a = ((a+1:Nat):Int) by omega] at this
end
section
variable {P : Program} {hp:List Ow} {arg:Operand→AV} {dd:Option Tmp} {ty:TypeId} {ps:String} {af:Array Edge} {gd:Option (Nat × Bool)}
theorem Qs.ixL {x y:Operand} {t:TypeId} {e n b n' b' len T:Nat} {d:TypeDesc} {z z':Value} {ds r:List D} {κ:IntKind} {i:Int} (hx:arg x = .d (epD T ds)) (hy:arg y = .d (ex (.int κ i))) (ht:Tab P t (.array len e) n b z) (he:Tab P e d n' b' z') (h0:0≤i) (hl:i<len) (hr:dropO (i.toNat*n') ds = some r):Quiet P hp ⟨dd,.indexAddr t x y,ty,ps,af,gd⟩ arg (.d (epD T r)):=by
 rw [(dropO_eq hr).1]
 exact Quiet.indexE (o:=⟨dd,.indexAddr t x y,ty,ps,af,gd⟩) rfl hx hy ht he h0 hl
theorem Qs.ixPL {x y:Operand} {t:TypeId} {e n b n' b' len id off:Nat} {d:TypeDesc} {z z':Value} {κ:IntKind} {i:Int} (hx:arg x = .ptr id off) (hy:arg y = .d (ex (.int κ i))) (ht:Tab P t (.array len e) n b z) (he:Tab P e d n' b' z') (h0:0≤i) (hl:i<len):Quiet P hp ⟨dd,.indexAddr t x y,ty,ps,af,gd⟩ arg (.ptr id (off+i.toNat*n')) :=
 Quiet.indexP (o:=⟨dd,.indexAddr t x y,ty,ps,af,gd⟩) rfl hx hy ht he h0 hl
end
def r5C (r : Nat→Int):List D:=[ex (.int .i8 (r 0)),ex (.int .i8 (r 1)),ex (.int .i8 (r 2)),ex (.int .i8 (r 3)),ex (.int .i8 (r 4))]
theorem r5C_at {r : Nat→Int} {k:Nat} (h:k<5):dAt (r5C r) k = ex (.int .i8 (r k)):=by
 match k,h with
 | 0,_=>rfl
 | 1,_=>rfl
 | 2,_=>rfl
 | 3,_=>rfl
 | 4,_=>rfl
theorem CellAt.r5 {r : Nat→Int} {k:Nat} (h:k<5):CellAt ((r5C r).drop (k*1)) 0 (ex (.int .i8 (r k))):=by
 rw [Nat.mul_one]
 refine ⟨by rw [List.length_drop];show 0<5 - k;omega,?_⟩
 rw [dAt_drop]
 exact r5C_at h
def r5D (T : Nat) (X:List (Nat→Int)):D:=slD T 5 (X.map r5C)
def i5At (X : List (Nat→Int)) (k:Nat):Nat→Int:=X.getD k default
theorem i5At_mem {X : List (Nat→Int)} {k:Nat} (h:k<X.length):i5At X k∈X:=by
 unfold i5At
 rw [List.getD_eq_getElem?_getD,List.getElem?_eq_getElem h]
 exact List.getElem_mem h
inductive AddE (e : Nat):List Oper→List Oper→Prop
 | nil:AddE e [] []
 | keep {o:Oper} {l l':List Oper} (h:AddE e l l'):AddE e (o :: l) (o :: l')
 | add {dd:Option Tmp} {op:Op} {ty:TypeId} {ps:String} {af:Array Edge} {gd:Option (Nat × Bool)} {l l':List Oper} (h:AddE e l l'):AddE e (⟨dd,op,ty,ps,af,gd⟩ :: l) (⟨dd,op,ty,ps,af.push ⟨e,.data⟩,gd⟩ :: l')
theorem AddE.length {e : Nat} {l l':List Oper} (h:AddE e l l'):l.length = l'.length:=by
 induction h <;> simp_all
theorem AddE.at {e : Nat} {l l':List Oper} (h:AddE e l l'):∀ (i:Nat) (o:Oper),l[i]? = some o→∃ o',l'[i]? = some o'∧(o' = o∨o' = { o with after:=o.after.push ⟨e,.data⟩ }):=by
 induction h with
 | nil=>intro i o ho;simp at ho
 | keep h ih =>
  intro i o ho
  cases i with
  | zero=>simp at ho;subst ho;exact ⟨_,by simp,.inl rfl⟩
  | succ i=>simpa using ih i o (by simpa using ho)
 | add h ih =>
  intro i o ho
  cases i with
  | zero=>simp at ho;subst ho;exact ⟨_,by simp,.inr rfl⟩
  | succ i=>simpa using ih i o (by simpa using ho)
def floatB (e : Nat) (L L':List Oper):Bool :=
 match L[e]?,L'[e]? with
 | some oe,some oe'=>(match oe.op with | .extract _ _=>true | _=>false) && oe.guard.isNone && (edges oe == edges oe') &&
  ((List.range L.length).all fun i=>match L[i]?,L'[i]? with
   | some o,some o'=>(edges o == edges o') || (edges oe).all fun j=>(edges o).contains j
   | _,_=>false) &&
  ((List.range L.length).all fun j=>j == e || match L[j]? with
   | some o=>(edges o).contains e || (edges oe).contains j || oe.apart L.toArray o
   | none=>false) &&
  L.all fun o=>notSelect o.op
 | _,_=>false
theorem extract_run {P : Program} {o:Oper} {x:Operand} {n:Nat} {a:Act} (hop:o.op = .extract x n):(∃ v,∀ w,(execOp a.eval o).run P w = .ok (.value v) w)∨∀ (K:Act→World→Prop) (Q:Exit→Act→World→Prop) w,¬ o.wp P a w K Q:=by
 cases hx:a.eval x with
 | tuple cs =>
  cases hc:cs[n]? with
  | some v=>exact .inl ⟨v,fun w=>by simp [execOp,hop,Instr.extract,hx,hc]⟩
  | none =>
   refine .inr fun K Q w hw=>?_
   simp [Oper.wp,execOp,hop,Instr.extract,hx,hc,stuck,Oper.upon] at hw
 | _ =>
  refine .inr fun K Q w hw=>?_
  simp [Oper.wp,execOp,hop,Instr.extract,hx,stuck,Oper.upon] at hw
theorem edges_of {L : List Oper} {j:Nat} {o:Oper} {listed:Array Bool} (hsz:listed.size = L.length) (ho:L[j]? = some o):j∈Region.ready .any L.toArray listed↔listed.getD j false = false∧∀ k∈edges o,listed.getD k false = true:=by
 have hlt:j<listed.size:=by rw [hsz];exact (List.getElem?_eq_some_iff.1 ho).1
 rw [mem_ready]
 have e:listed.getD j true = listed.getD j false:=by simp [hlt]
 rw [e]
 refine and_congr_right fun _=>⟨fun ⟨o',h1,h2⟩ k hk=>?_,fun h=>⟨o,by simpa using ho,fun e he hb=>h _ (mem_edges he hb)⟩⟩
 obtain rfl:o' = o:=by rw [List.getElem?_toArray,ho] at h1;exact (Option.some.inj h1).symm
 obtain ⟨e,he,hb,rfl⟩:=edges_mem hk
 exact h2 e he hb
theorem edges_add {o : Oper} {e:Nat} {k:Nat} (h:k∈edges o):k∈edges { o with after:=o.after.push ⟨e,.data⟩ }:=by
 obtain ⟨x,hx,hb,rfl⟩:=edges_mem h
 exact mem_edges (by simp [hx]) hb
theorem edges_sub {o : Oper} {e:Nat} {k:Nat} (h:k∈edges { o with after:=o.after.push ⟨e,.data⟩ }):k∈edges o∨k = e:=by
 obtain ⟨x,hx,hb,rfl⟩:=edges_mem h
 rcases Array.mem_push.1 hx with hx | rfl
 ·exact .inl (mem_edges hx hb)
 ·exact .inr rfl
theorem wpAny_float {P : Program} {Q:Exit→Act→World→Prop} {e:Nat} {L L':List Oper} (hL:AddE e L L') (hb:floatB e L L' = true) (hQ:∀ c a w,¬ Q (.panic c) a w) (hQ':¬ LetsOut Q):∀ (f:Nat) (listed:Array Bool) (a:Act) (w:World),listed.size = L.length →
  (∀ j o,L[j]? = some o→listed.getD j false = true→∀ k∈edges o,listed.getD k false = true) →
  wpAny P .any L'.toArray Q f listed a w→wpAny P .any L.toArray Q f listed a w:=by
 obtain ⟨oe,oe',he,he',hb1,hb2,hb3,hb4,hb5,hb6⟩:∃ oe oe',L[e]? = some oe∧L'[e]? = some oe'∧(∃ x n,oe.op = .extract x n)∧oe.guard = none∧edges oe = edges oe'∧(∀ i o o',L[i]? = some o→L'[i]? = some o'→edges o = edges o'∨∀ j∈edges oe,j∈edges o)∧(∀ j o,L[j]? = some o→j = e∨e∈edges o∨j∈edges oe∨oe.apart L.toArray o = true)∧∀ o∈L,notSelect o.op = true:=by
  unfold floatB at hb
  split at hb
  ·rename_i oe oe' he he'
   simp only [Bool.and_eq_true] at hb
   obtain ⟨⟨⟨⟨⟨h1,h2⟩,h3⟩,h4⟩,h5⟩,h6⟩:=hb
   refine ⟨oe,oe',he,he',?_,by simpa using h2,by simpa using h3,fun i o o' ho ho'=>?_,fun j o ho=>?_,fun o ho=>List.all_eq_true.1 h6 o ho⟩
   ·split at h1
    ·exact ⟨_,_,by assumption⟩
    ·cases h1
   ·have:=List.all_eq_true.1 h4 i (List.mem_range.2 (List.getElem?_eq_some_iff.1 ho).1)
    rw [ho,ho'] at this
    simpa using this
   ·have:=List.all_eq_true.1 h5 j (List.mem_range.2 (List.getElem?_eq_some_iff.1 ho).1)
    rw [ho] at this
    simp only [Bool.or_eq_true,beq_iff_eq] at this
    simp only [List.contains_iff_mem] at this
    rcases this with h | (h | h) | h
    ·exact .inl h
    ·exact .inr (.inl h)
    ·exact .inr (.inr (.inl h))
    ·exact .inr (.inr (.inr h))
  ·cases hb
 obtain ⟨x,n,hop⟩:=hb1
 have hlen:=hL.length
 have hel:e<L.length:=(List.getElem?_eq_some_iff.1 he).1
 have hsel:∀ (j:Nat) (o:Oper) cs b,L.toArray[j]? = some o→o.op ≠ .select cs b:=fun j o cs b ho h=>by
  have:=hb6 o (List.mem_of_getElem? (i:=j) (by simpa using ho))
  rw [h] at this
  cases this
 intro f
 induction f with
 | zero =>
  intro listed a w hsz hcl h
  refine ⟨?_,h.2⟩
  have h1:=h.1
  refine List.eq_nil_iff_forall_not_mem.2 fun i hi=>?_
  obtain ⟨_,o,ho,_⟩:=mem_ready.1 hi
  have ho:L[i]? = some o:=by simpa using ho
  obtain ⟨o',ho',hoo⟩:=hL.at i o ho
  have hi2:=(edges_of hsz ho).1 hi
  by_cases hr:i∈Region.ready .any L'.toArray listed
  ·rw [h1] at hr;cases hr
  ·have hr':e∈Region.ready .any L'.toArray listed:=by
    rw [edges_of (by rw [hsz,hlen]) ho'] at hr
    rw [edges_of (by rw [hsz,hlen]) he',← hb3]
    rcases hb4 i o o' ho ho' with h | h
    ·exact absurd ⟨hi2.1,by rw [← h];exact hi2.2⟩ hr
    ·refine ⟨?_,fun k hk=>hi2.2 k (h k hk)⟩
     cases hg:listed.getD e false with
     | false=>rfl
     | true =>
      refine absurd ⟨hi2.1,fun k hk=>?_⟩ hr
      rcases hoo with rfl | rfl
      ·exact hi2.2 k hk
      ·rcases edges_sub hk with hk | rfl
       ·exact hi2.2 k hk
       ·exact hg
   rw [h1] at hr';cases hr'
 | succ f ih =>
  intro listed a w hsz hcl h
  by_cases hre:e∈Region.ready .any L.toArray listed
  ·have hre2:=(edges_of hsz he).1 hre
   have hre':e∈Region.ready .any L'.toArray listed:=(edges_of (by rw [hsz,hlen]) he').2 ⟨hre2.1,by rw [← hb3];exact hre2.2⟩
   have h1:=h.2 e hre'
   obtain ⟨oe2,he2,hoo⟩:=hL.at e oe he
   obtain rfl:oe2 = oe':=Option.some.inj (he2.symm.trans he')
   have hex:execOp a.eval oe2 = execOp a.eval oe:=by rcases hoo with rfl | rfl <;> rfl
   have hgd:oe2.guard = none:=by rcases hoo with rfl | rfl <;> exact hb2
   have hds:oe2.dst = oe.dst:=by rcases hoo with rfl | rfl <;> rfl
   unfold wpOp at h1
   rw [show L'.toArray[e]? = some oe2 by simpa using he'] at h1
   simp only [Region.wanted,hgd,if_true] at h1
   have h1:oe2.wp P a w (wpAny P .any L'.toArray Q f (listed.setIfInBounds e true)) Q:=h1.elim id fun h=>absurd h.2 hQ'
   rcases extract_run (P:=P) (a:=a) hop with ⟨v,hv⟩ | hno
   ·have h2:wpAny P .any L'.toArray Q f (listed.setIfInBounds e true) (a.put oe.dst v) w:=by
     unfold Oper.wp at h1
     rw [hex,hv w,Oper.upon_value,hds] at h1
     exact h1
    refine wpAny_first (v:=v) (show L.toArray[e]? = some oe by simpa using he) hsel (fun c a w h=>absurd h (hQ c _ w)) f listed a w (fun j oj hj hne hun hno=>?_) hre (.inl ⟨by simp [Region.wanted,hb2],hv⟩) (ih _ _ _ (by simpa using hsz) (fun j o ho hl k hk=>?_) h2)
    ·have hj : L[j]? = some oj := by simpa using hj
     rcases hb5 j oj hj with h | h | h | h
     ·exact absurd h hne
     ·obtain ⟨x,hx,hbx,hxe⟩:=edges_mem h
      exact absurd hxe (hno x hx hbx)
     ·have:=hre2.2 j h
      have hlt:j<listed.size:=by rw [hsz];exact (List.getElem?_eq_some_iff.1 hj).1
      simp [hlt] at this hun
      rw [this] at hun;cases hun
     ·exact h
    ·by_cases hje:j = e
     ·subst hje
      obtain rfl:o = oe:=Option.some.inj (ho.symm.trans he)
      exact getD_set_true (hre2.2 k hk)
     ·rw [getD_set_ne false (fun h=>hje h.symm)] at hl
      exact getD_set_true (hcl j o ho hl k hk)
   ·exfalso
    refine hno (wpAny P .any L'.toArray Q f (listed.setIfInBounds e true)) Q w ?_
    unfold Oper.wp at h1 ⊢
    rw [hex] at h1
    have:∀ (r:Result Next),oe2.upon P a (wpAny P .any L'.toArray Q f (listed.setIfInBounds e true)) Q r = oe.upon P a (wpAny P .any L'.toArray Q f (listed.setIfInBounds e true)) Q r:=fun r=>by
     rcases hoo with rfl | rfl <;> rfl
    rwa [this] at h1
  ·have same:∀ i,i∈Region.ready .any L.toArray listed↔i∈Region.ready .any L'.toArray listed:=fun i=>by
    by_cases hil:i<L.length
    ·have ho:L[i]? = some L[i]:=List.getElem?_eq_getElem hil
     obtain ⟨o',ho',hoo⟩:=hL.at i _ ho
     rw [edges_of hsz ho,edges_of (by rw [hsz,hlen]) ho']
     refine and_congr_right fun hun=>⟨fun h k hk=>?_,fun h k hk=>?_⟩
     ·rcases hb4 i _ o' ho ho' with h' | h'
      ·exact h k (by rw [h'];exact hk)
      ·rcases hoo with rfl | rfl
       ·exact h k hk
       ·rcases edges_sub hk with hk | rfl
        ·exact h k hk
        ·cases hg:listed.getD k false with
         | true=>rfl
         | false=>exact absurd ((edges_of hsz he).2 ⟨hg,fun j hj=>h j (h' j hj)⟩) hre
     ·rcases hoo with rfl | rfl
      ·exact h k hk
      ·exact h k (edges_add hk)
    ·constructor
     ·intro h
      obtain ⟨_,o,ho,_⟩:=mem_ready.1 h
      have:=(Array.getElem?_eq_some_iff.1 ho).1
      simp at this
      exact absurd this hil
     ·intro h
      obtain ⟨_,o,ho,_⟩:=mem_ready.1 h
      have:=(Array.getElem?_eq_some_iff.1 ho).1
      simp at this
      exact absurd (by omega) hil
   refine ⟨fun hn=>h.1 (List.eq_nil_iff_forall_not_mem.2 fun i hi=>?_),fun i hi=>?_⟩
   ·have:=(same i).2 hi
    rw [hn] at this;cases this
   ·have h1:=h.2 i ((same i).1 hi)
    obtain ⟨_,o,ho,_⟩:=mem_ready.1 hi
    have ho:L[i]? = some o:=by simpa using ho
    obtain ⟨o',ho',hoo⟩:=hL.at i o ho
    have hi2:=(edges_of hsz ho).1 hi
    have hyl:∀ t,yielded L'.toArray t = yielded L.toArray t:=fun t=>by
     funext j
     unfold yielded
     simp only [List.getElem?_toArray]
     cases hj:L[j]? with
     | none =>
      have:L'[j]? = none:=by rw [List.getElem?_eq_none_iff] at hj ⊢;omega
      rw [this]
     | some oj =>
      obtain ⟨oj',hj',hjj⟩:=hL.at j oj hj
      rw [hj']
      rcases hjj with rfl | rfl <;> rfl
    have hcl2:∀ j o,L[j]? = some o→(listed.setIfInBounds i true).getD j false = true→∀ k∈edges o,(listed.setIfInBounds i true).getD k false = true:=fun j oj hoj hl k hk=>by
     by_cases hji:j = i
     ·subst hji
      obtain rfl:oj = o:=Option.some.inj (hoj.symm.trans ho)
      exact getD_set_true (hi2.2 k hk)
     ·rw [getD_set_ne false (fun h=>hji h.symm)] at hl
      exact getD_set_true (hcl j oj hoj hl k hk)
    refine wpOp_mono (fun a w h=>ih _ a w (by simpa using hsz) hcl2 h) ?_
    unfold wpOp at h1 ⊢
    rw [show L'.toArray[i]? = some o' by simpa using ho'] at h1
    rw [show L.toArray[i]? = some o by simpa using ho]
    rw [hyl] at h1
    rcases hoo with rfl | rfl
    ·exact h1
    ·exact h1
structure OnlyN (Q : Exit→AS→Prop) (e:Exit) (σ:AS):Prop where
 how:e = .normal
 run:Q .normal σ
theorem OnlyN.mk' {Q : Exit→AS→Prop} {σ:AS} (h:Q .normal σ):OnlyN Q .normal σ:=⟨rfl,h⟩
theorem DrawOk.float {P : Program} {s0:An} {n:Nat} {id:Nat} {e:Nat} {L L':List Oper} {Q:Exit→AS→Prop} (hm:P.follows .mixedOrders = true) (hL:AddE e L L') (hb:floatB e L L' = true):DrawOk P s0 n id L.toArray L' Q (OnlyN Q):=⟨fun a w h=>by
 have hfz:∀ j,(Array.replicate L.toArray.size false).getD j false = false:=fun j=>by
  rcases Nat.lt_or_ge j L.length with h | h
  ·simp [h]
  ·simp [h]
 have hs:L'.toArray.size = L.toArray.size:=by simp [hL.length]
 rw [hs] at h
 have hp:∀ c a w,¬ lift s0 n (OnlyN Q) (.panic c) a w:=fun c a w ⟨σ,h,_⟩=>by have:=h.how;cases this
 have hl:¬ LetsOut (lift s0 n (OnlyN Q)):=fun ⟨a,w,σ,h,_⟩=>by have:=h.how;cases this
 have h1:=wpAny_float hL hb hp hl _ _ _ _ (by simp) (fun j o _ hl=>by rw [hfz] at hl;cases hl) h
 exact wp_mono (wp_region_any hm h1) fun ex a' w' ⟨σ,h,hs⟩=>by
  obtain ⟨rfl,h⟩:=h
  exact ⟨σ,h,hs⟩⟩
end Go.Proofs.YteicdddphdomkaaGreat
namespace Go.Proofs.YteicdddphdomkaaGreat
open Go.RowKit
section
variable {P : Program} {hp:List Ow} {arg:Operand→AV} {dd:Option Tmp} {ty:TypeId} {ps:String} {af:Array Edge} {gd:Option (Nat × Bool)}
theorem Qz.move {x : Operand} {r:AV} (hx:arg x = r:=by first | exact ao rfl | exact ah rfl):Quiet P hp ⟨dd,.move x,ty,ps,af,gd⟩ arg r:=Qs.move hx
theorem Qz.assign {x : Operand} {r:AV} (hx:arg x = r:=by first | exact ao rfl | exact ah rfl):Quiet P hp ⟨dd,.assign x,ty,ps,af,gd⟩ arg r:=Qs.assign hx
theorem Qz.ldD {x : Operand} {t:TypeId} {d:TypeDesc} {n b T id off:Nat} {z:Value} {ds r:List D} (hx:arg x = .ptr id off:=by first | exact ao rfl | exact ah rfl) (hh:hp[id]? = some (.var T (ds.map .d)):=by exact rfl) (ht:Tab P t d n b z:=by exact (tab_of rfl)) (hd:isAg d = true:=by exact rfl) (hr:subO off n ds = some r:=by exact rfl):Quiet P hp ⟨dd,.load t x,ty,ps,af,gd⟩ arg (.d (agD r)):=Qs.ldD hx hh ht hd hr
theorem Qz.ldD1 {x : Operand} {t:TypeId} {d:TypeDesc} {n b T id off:Nat} {z:Value} {ds:List D} {r:D} (hx:arg x = .ptr id off:=by first | exact ao rfl | exact ah rfl) (hh:hp[id]? = some (.var T (ds.map .d)):=by exact rfl) (ht:Tab P t d n b z:=by exact (tab_of rfl)) (hd:isAg d = false:=by exact rfl) (hr:atO off ds = some r:=by exact rfl):Quiet P hp ⟨dd,.load t x,ty,ps,af,gd⟩ arg (.d r):=Qs.ldD1 hx hh ht hd hr
theorem Qz.loadP1 {x : Operand} {t:TypeId} {d:TypeDesc} {n b T id off:Nat} {z:Value} {cells:List AV} {r:AV} (hx:arg x = .ptr id off:=by first | exact ao rfl | exact ah rfl) (hh:hp[id]? = some (.var T cells):=by exact rfl) (ht:Tab P t d n b z:=by exact (tab_of rfl)) (hd:isAg d = false:=by exact rfl) (hc:cells[off]? = some r:=by exact rfl):Quiet P hp ⟨dd,.load t x,ty,ps,af,gd⟩ arg r:=Qs.loadP1 hx hh ht hd hc
theorem Qz.loadEf {x : Operand} {t:TypeId} {d:TypeDesc} {n b T:Nat} {z:Value} {ds:List D} (hx:arg x = .d (epD T ds):=by first | exact ao rfl | exact ah rfl) (ht:Tab P t d n b z:=by exact (tab_of rfl)) (hd:isAg d = true:=by exact rfl) (hn:ds.length = n:=by exact rfl):Quiet P hp ⟨dd,.load t x,ty,ps,af,gd⟩ arg (.d (agD ds)):=Qs.loadEf hx ht hd hn
theorem Qz.ldE {x : Operand} {t:TypeId} {d:TypeDesc} {n b T:Nat} {z:Value} {ds r:List D} (hx:arg x = .d (epD T ds):=by first | exact ao rfl | exact ah rfl) (ht:Tab P t d n b z:=by exact (tab_of rfl)) (hd:isAg d = true:=by exact rfl) (hr:takeO n ds = some r:=by exact rfl):Quiet P hp ⟨dd,.load t x,ty,ps,af,gd⟩ arg (.d (agD r)):=Qs.ldE hx ht hd hr
theorem Qz.ldE1 {x : Operand} {t:TypeId} {d:TypeDesc} {n b T:Nat} {z:Value} {ds:List D} {r:D} (hx:arg x = .d (epD T ds):=by first | exact ao rfl | exact ah rfl) (ht:Tab P t d n b z:=by exact (tab_of rfl)) (hd:isAg d = false:=by exact rfl) (hr:atO 0 ds = some r:=by exact rfl):Quiet P hp ⟨dd,.load t x,ty,ps,af,gd⟩ arg (.d r):=Qs.ldE1 hx ht hd hr
theorem Qz.ldX1 {x : Operand} {t:TypeId} {d:TypeDesc} {n b T id off:Nat} {z:Value} {ds:List D} {u:D} (hx:arg x = .ptr id off:=by first | exact ao rfl | exact ah rfl) (hh:hp[id]? = some (.var T (ds.map .d)):=by exact rfl) (ht:Tab P t d n b z:=by exact (tab_of rfl)) (hd:isAg d = false:=by exact rfl) (hc:CellAt ds off u:=by first | exact (CellAt.mon0 (by first | omega | (simp;omega))) | exact (CellAt.tm (by first | omega | (simp;omega)))):Quiet P hp ⟨dd,.load t x,ty,ps,af,gd⟩ arg (.d u):=Qs.ldX1 hx hh ht hd hc
theorem Qz.atX1 {x y:Operand} {t:TypeId} {e n b b' len k:Nat} {d:TypeDesc} {z z':Value} {ds:List D} {u:D} {κ:IntKind} (hx:arg x = .d (agD ds):=by first | exact ao rfl | exact ah rfl) (hy:arg y = .d (ex (.int κ ((k:Nat):Int))):=by first | exact ao rfl | exact ah rfl) (ht:Tab P t (.array len e) n b z:=by exact (tab_of rfl)) (he:Tab P e d 1 b' z':=by exact (tab_of rfl)) (hd:isAg d = false:=by exact rfl) (hk:k<len:=by first | omega | (simp;omega)) (hc:CellAt ds k u:=by exact (CellAt.mon (by first | omega | (simp;omega)))):Quiet P hp ⟨dd,.index t x y,ty,ps,af,gd⟩ arg (.d u):=Qs.atX1 hx hy ht he hd hk hc
theorem Qz.fldE {x : Operand} {S:TypeId} {fs:Array Field} {f n b n' b' T:Nat} {fd:Field} {d:TypeDesc} {z z':Value} {ds r:List D} (hx:arg x = .d (epD T ds):=by first | exact ao rfl | exact ah rfl) (hS:Tab P S (.struct fs) n b z:=by exact (tab_of rfl)) (hf:fs[f]? = some fd:=by exact rfl) (he:Tab P fd.type d n' b' z':=by exact (tab_of rfl)) (hn:Nat.beq n' 0 = false:=by exact rfl) (hr:dropO fd.offset ds = some r:=by exact rfl):Quiet P hp ⟨dd,.fieldAddr S x f,ty,ps,af,gd⟩ arg (.d (epD T r)):=Qs.fldE hx hS hf he hn hr
theorem Qz.fldP {x : Operand} {S:TypeId} {fs:Array Field} {f n b n' b' id off:Nat} {fd:Field} {d:TypeDesc} {z z':Value} (hx:arg x = .ptr id off:=by first | exact ao rfl | exact ah rfl) (hS:Tab P S (.struct fs) n b z:=by exact (tab_of rfl)) (hf:fs[f]? = some fd:=by exact rfl) (he:Tab P fd.type d n' b' z':=by exact (tab_of rfl)) (hn:Nat.beq n' 0 = false:=by exact rfl):Quiet P hp ⟨dd,.fieldAddr S x f,ty,ps,af,gd⟩ arg (.ptr id (off+fd.offset)):=Qs.fldP hx hS hf he hn
theorem Qz.index0 {α : Type} {x y:Operand} {t:TypeId} {e n b n' b' T sz:Nat} {d:TypeDesc} {z z':Value} {f:α→List D} {a:α} {l:List α} {κ:IntKind} (hx:asD hp (arg x) = some (slD T sz ((a :: l).map f)):=by exact rfl) (hy:arg y = .d (ex (.int κ 0)):=by first | exact ao rfl | exact ah rfl) (ht:Tab P t (.slice e) n b z:=by exact (tab_of rfl)) (he:Tab P e d n' b' z':=by exact (tab_of rfl)) (hsz:n' = sz:=by exact rfl):Quiet P hp ⟨dd,.indexAddr t x y,ty,ps,af,gd⟩ arg (.d (epD T (f a))):=Qs.index0 hx hy ht he hsz
theorem Qz.indexN {α : Type} [Inhabited α] {x y:Operand} {t:TypeId} {e n b n' b' T sz k:Nat} {d:TypeDesc} {z z':Value} {f:α→List D} {l:List α} {κ:IntKind} (hx:asD hp (arg x) = some (slD T sz (l.map f)):=by exact rfl) (hy:arg y = .d (ex (.int κ (k:Nat))):=by first | exact ao rfl | exact ah rfl) (ht:Tab P t (.slice e) n b z:=by exact (tab_of rfl)) (he:Tab P e d n' b' z':=by exact (tab_of rfl)) (hsz:n' = sz:=by exact rfl) (hk:k<l.length:=by first | omega | (simp;omega)):Quiet P hp ⟨dd,.indexAddr t x y,ty,ps,af,gd⟩ arg (.d (epD T (f (l.getD k default)))):=Qs.indexN hx hy ht he hsz hk
theorem Qz.ixP {x y:Operand} {t:TypeId} {e n b n' b' len id off k:Nat} {d:TypeDesc} {z z':Value} {κ:IntKind} (hx:arg x = .ptr id off:=by first | exact ao rfl | exact ah rfl) (hy:arg y = .d (ex (.int κ ((k:Nat):Int))):=by first | exact ao rfl | exact ah rfl) (ht:Tab P t (.array len e) n b z:=by exact (tab_of rfl)) (he:Tab P e d n' b' z':=by exact (tab_of rfl)) (hk:k<len:=by first | omega | (simp;omega)):Quiet P hp ⟨dd,.indexAddr t x y,ty,ps,af,gd⟩ arg (.ptr id (off+k*n')):=Qs.ixP hx hy ht he hk
theorem Qz.ixPL {x y:Operand} {t:TypeId} {e n b n' b' len id off:Nat} {d:TypeDesc} {z z':Value} {κ:IntKind} {i:Int} (hx:arg x = .ptr id off:=by first | exact ao rfl | exact ah rfl) (hy:arg y = .d (ex (.int κ i)):=by first | exact ao rfl | exact ah rfl) (ht:Tab P t (.array len e) n b z:=by exact (tab_of rfl)) (he:Tab P e d n' b' z':=by exact (tab_of rfl)) (h0:0≤i:=by decide) (hl:i<len:=by decide):Quiet P hp ⟨dd,.indexAddr t x y,ty,ps,af,gd⟩ arg (.ptr id (off+i.toNat*n')):=Qs.ixPL hx hy ht he h0 hl
theorem Qz.indexW {x y:Operand} {t:TypeId} {e n b b' k:Nat} {d:TypeDesc} {z z':Value} {l:List Nat} {κ:IntKind} (hx:arg x = .d (wD l):=by first | exact ao rfl | exact ah rfl) (hy:arg y = .d (ex (.int κ ((k:Nat):Int))):=by first | exact ao rfl | exact ah rfl) (ht:Tab P t (.slice e) n b z:=by exact (tab_of rfl)) (he:Tab P e d 1 b' z':=by exact (tab_of rfl)) (hk:k<l.length:=by first | omega | (simp;omega)):Quiet P hp ⟨dd,.indexAddr t x y,ty,ps,af,gd⟩ arg (.d (epD 137 [ex (.int .u32 (l.getD k 0:Nat))])):=Qs.indexW hx hy ht he hk
theorem Qz.tailN {α : Type} {x y:Operand} {t:TypeId} {e n b n' b' T sz:Nat} {d:TypeDesc} {z z':Value} {f:α→List D} {a:α} {l:List α} (hx:asD hp (arg x) = some (slD T sz ((a :: l).map f)):=by exact rfl) (hy:arg y = .d (ex (.int .i64 1)):=by first | exact ao rfl | exact ah rfl) (ht:Tab P t (.slice e) n b z:=by exact (tab_of rfl)) (he:Tab P e d n' b' z':=by exact (tab_of rfl)) (hsz:n' = sz:=by exact rfl):Quiet P hp ⟨dd,.slice t x (some y) none none,ty,ps,af,gd⟩ arg (.d (slD T sz (l.map f))):=Qs.tailN hx hy ht he hsz
theorem Qz.lenN {α : Type} {x:Operand} {t:TypeId} {e n b T sz:Nat} {z:Value} {f:α→List D} {l:List α} (hx:asD hp (arg x) = some (slD T sz (l.map f)):=by exact rfl) (ht:Tab P t (.slice e) n b z:=by exact (tab_of rfl)):Quiet P hp ⟨dd,.call { callee:=.builtin .len,args:=#[x],argTypes:=#[t] },ty,ps,af,gd⟩ arg (.d (ex (.int .i64 (l.length:Nat)))):=Qs.lenN hx ht
theorem Qz.lenW {x : Operand} {t:TypeId} {e n b:Nat} {z:Value} {l:List Nat} (hx:arg x = .d (wD l):=by first | exact ao rfl | exact ah rfl) (ht:Tab P t (.slice e) n b z:=by exact (tab_of rfl)):Quiet P hp ⟨dd,.call { callee:=.builtin .len,args:=#[x],argTypes:=#[t] },ty,ps,af,gd⟩ arg (.d (ex (.int .i64 (l.length:Nat)))):=Qs.lenW hx ht
theorem Qz.succ {T U:TypeId} {x y:Operand} {a:Nat} (hx:arg x = .d (ex (.int .i64 (a:Nat))):=by first | exact ao rfl | exact ah rfl) (hy:arg y = .d (ex (.int .i64 1)):=by first | exact ao rfl | exact ah rfl) (h1:(a:Int)<9223372036854775807:=by omega):Quiet P hp ⟨dd,.binOp .add T x y U,ty,ps,af,gd⟩ arg (.d (ex (.int .i64 ((a+1:Nat):Int)))):=Qs.succ hx hy h1
theorem Qz.add {T U:TypeId} {x y:Operand} {a b:Int} (hx:arg x = .d (ex (.int .i64 a)):=by first | exact ao rfl | exact ah rfl) (hy:arg y = .d (ex (.int .i64 b)):=by first | exact ao rfl | exact ah rfl) (h1:-9223372036854775808≤a+b:=by omega) (h2:a+b≤9223372036854775807:=by omega):Quiet P hp ⟨dd,.binOp .add T x y U,ty,ps,af,gd⟩ arg (.d (ex (.int .i64 (a+b)))):=Qs.add hx hy h1 h2
theorem Qz.pred {T U:TypeId} {x y:Operand} {a:Nat} (hx:arg x = .d (ex (.int .i64 ((a:Nat):Int))):=by first | exact ao rfl | exact ah rfl) (hy:arg y = .d (ex (.int .i64 1)):=by first | exact ao rfl | exact ah rfl) (h0:0<a:=by omega) (h1:(a:Int)<9223372036854775807:=by omega):Quiet P hp ⟨dd,.binOp .sub T x y U,ty,ps,af,gd⟩ arg (.d (ex (.int .i64 ((a - 1:Nat):Int)))):=Qs.pred hx hy h0 h1
theorem Qz.sub {T U:TypeId} {x y:Operand} {a b:Int} (hx:arg x = .d (ex (.int .i64 a)):=by first | exact ao rfl | exact ah rfl) (hy:arg y = .d (ex (.int .i64 b)):=by first | exact ao rfl | exact ah rfl) (h1:-9223372036854775808≤a - b:=by omega) (h2:a - b≤9223372036854775807:=by omega):Quiet P hp ⟨dd,.binOp .sub T x y U,ty,ps,af,gd⟩ arg (.d (ex (.int .i64 (a - b)))):=Qs.sub hx hy h1 h2
theorem Qz.mul {T U:TypeId} {x y:Operand} {a b:Int} (hx:arg x = .d (ex (.int .i64 a)):=by first | exact ao rfl | exact ah rfl) (hy:arg y = .d (ex (.int .i64 b)):=by first | exact ao rfl | exact ah rfl) (h1:-9223372036854775808≤a*b:=by omega) (h2:a*b≤9223372036854775807:=by omega):Quiet P hp ⟨dd,.binOp .mul T x y U,ty,ps,af,gd⟩ arg (.d (ex (.int .i64 (a*b)))):=Qs.mul hx hy h1 h2
theorem Qz.rem {T U:TypeId} {x y:Operand} {k:IntKind} {a b:Int} (hx:arg x = .d (ex (.int k a)):=by first | exact ao rfl | exact ah rfl) (hy:arg y = .d (ex (.int k b)):=by first | exact ao rfl | exact ah rfl) (h0:0≤a:=by omega) (hb:0<b:=by omega):Quiet P hp ⟨dd,.binOp .rem T x y U,ty,ps,af,gd⟩ arg (.d (ex (.int k (a % b)))):=Qs.rem hx hy h0 hb
theorem Qz.cmpT {op : BinOp} {T U:TypeId} {x y:Operand} {k:IntKind} {a b:Int} (hb:isCmp op = true:=by exact rfl) (hx:arg x = .d (ex (.int k a)):=by first | exact ao rfl | exact ah rfl) (hy:arg y = .d (ex (.int k b)):=by first | exact ao rfl | exact ah rfl) (hc:cmpP op a b:=by first | (simp only [cmpP,List.length_cons,List.length_nil];omega) | (simp [cmpP];done) | (simp [cmpP];omega)):Quiet P hp ⟨dd,.binOp op T x y U,ty,ps,af,gd⟩ arg (.d (ex (.bool true))):=Qs.cmpT hb hx hy hc
theorem Qz.cmpF {op : BinOp} {T U:TypeId} {x y:Operand} {k:IntKind} {a b:Int} (hb:isCmp op = true:=by exact rfl) (hx:arg x = .d (ex (.int k a)):=by first | exact ao rfl | exact ah rfl) (hy:arg y = .d (ex (.int k b)):=by first | exact ao rfl | exact ah rfl) (hc:¬ cmpP op a b:=by first | (simp only [cmpP,List.length_cons,List.length_nil];omega) | (simp [cmpP];done) | (simp [cmpP];omega)):Quiet P hp ⟨dd,.binOp op T x y U,ty,ps,af,gd⟩ arg (.d (ex (.bool false))):=Qs.cmpF hb hx hy hc
theorem Qz.cmp {op : BinOp} {T U:TypeId} {x y:Operand} {k:IntKind} {a b:Int} {c:Bool} (hx:arg x = .d (ex (.int k a)):=by first | exact ao rfl | exact ah rfl) (hy:arg y = .d (ex (.int k b)):=by first | exact ao rfl | exact ah rfl) (hc:cmpB op a b = some c:=by exact rfl):Quiet P hp ⟨dd,.binOp op T x y U,ty,ps,af,gd⟩ arg (.d (ex (.bool c))):=Qs.cmp hx hy hc
theorem Qz.neBool {x y:Operand} {T U:TypeId} {a b:Bool} (hx:arg x = .d (ex (.bool a)):=by first | exact ao rfl | exact ah rfl) (hy:arg y = .d (ex (.bool b)):=by first | exact ao rfl | exact ah rfl) (hT:P.underlying T = some .bool:=by kernel_rfl):Quiet P hp ⟨dd,.binOp .neq T x y U,ty,ps,af,gd⟩ arg (.d (ex (.bool (!(a == b))))):=Qs.neBool hx hy hT
theorem Qz.not {T : TypeId} {x:Operand} {a:Bool} (hx:arg x = .d (ex (.bool a)):=by first | exact ao rfl | exact ah rfl):Quiet P hp ⟨dd,.unOp .not T x,ty,ps,af,gd⟩ arg (.d (ex (.bool (!a)))):=Qs.not hx
theorem Qz.max {x y:Operand} {tys:Array TypeId} {k:IntKind} {a b:Int} (hx:arg x = .d (ex (.int k a)):=by first | exact ao rfl | exact ah rfl) (hy:arg y = .d (ex (.int k b)):=by first | exact ao rfl | exact ah rfl):Quiet P hp ⟨dd,.call { callee:=.builtin .max,args:=#[x,y],argTypes:=tys },ty,ps,af,gd⟩ arg (.d (ex (.int k (Max.max a b)))):=Qs.max hx hy
theorem Qz.ext {x : Operand} {i:Nat} {ds:List D} {r:D} (hx:arg x = .d (tupD ds):=by first | exact ao rfl | exact ah rfl) (hr:atO i ds = some r:=by exact rfl):Quiet P hp ⟨dd,.extract x i,ty,ps,af,gd⟩ arg (.d r):=Qs.ext hx hr
theorem Qz.pickT {c x y:Operand} {r:AV} (hx:arg x = r:=by first | exact ao rfl | exact ah rfl) (hc:arg c = .d (ex (.bool true)):=by first | exact ao rfl | exact ah rfl):Quiet P hp ⟨dd,.pick c x y,ty,ps,af,gd⟩ arg r:=Qs.pickT hx hc
theorem Qz.pickF {c x y:Operand} {r:AV} (hy:arg y = r:=by first | exact ao rfl | exact ah rfl) (hc:arg c = .d (ex (.bool false)):=by first | exact ao rfl | exact ah rfl):Quiet P hp ⟨dd,.pick c x y,ty,ps,af,gd⟩ arg r:=Qs.pickF hy hc
theorem Qz.conv64 {S T:TypeId} {x:Operand} {k:IntKind} {a:Int} {d:TypeDesc} {n b n' b':Nat} {z z':Value} (hx:arg x = .d (ex (.int k a)):=by first | exact ao rfl | exact ah rfl) (hS:Tab P S d n b z:=by exact (tab_of rfl)) (hT:Tab P T (.int .i64) n' b' z':=by exact (tab_of rfl)) (h1:-9223372036854775808≤a:=by omega) (h2:a≤9223372036854775807:=by omega):Quiet P hp ⟨dd,.convert S T x,ty,ps,af,gd⟩ arg (.d (ex (.int .i64 a))):=Qs.conv64 hx hS hT h1 h2
theorem Qz.call {f : Operand} {args:List Operand} {tys:Array TypeId} {fid:FuncId} {ds:List D} {r:D} (hc:Abs P fid ds r) (hf:arg f = .d (ex (.func (.func fid) #[] #[])):=by first | exact ao rfl | exact ah rfl) (ha:ArgsLe hp arg args ds:=by repeat (first | exact ArgsLe.nil | refine ArgsLe.cons rfl (D.le.refl _) ?_ | refine ArgsLe.cons rfl D.le_nil ?_)):Quiet P hp ⟨dd,.call { callee:=.value f,args:=args.toArray,argTypes:=tys },ty,ps,af,gd⟩ arg (.d r):=Qs.call hf hc ha
end
section
variable {P : Program} {s0:An} {n:Nat} {ops:Array Oper} {Q:Exit→AS→Prop} {rest:List Oper} {fr:List (Nat × AV)} {hp:List Ow} {ty:TypeId} {ps:String} {af:Array Edge} {d:Nat} {op:Op} {r:AV}
theorem Wq (hq : Quiet P hp ⟨some d,op,ty,ps,af,none⟩ (AS.arg ⟨fr,hp⟩) r) (h:AWl P s0 n ops Q rest ⟨(d,r) :: fr,hp⟩) (hs:notSelect op = true:=by exact rfl) (hd:Nat.blt d n = true:=by exact rfl):AWl P s0 n ops Q (⟨some d,op,ty,ps,af,none⟩ :: rest) ⟨fr,hp⟩:=AWs.q hs hd ⟨r,hq,h⟩
theorem Wg {j : Nat} {b:Bool} {e:Nat} (hq:Quiet P hp ⟨some d,op,ty,ps,af,some (j,b)⟩ (AS.arg ⟨fr,hp⟩) r) (h:AWl P s0 n ops Q rest ⟨(d,r) :: fr,hp⟩) (hy:(ops[j]?).bind (·.dst) = some e:=by exact rfl) (hl:look fr e = some (.d (ex (.bool b))):=by exact rfl) (hen:Nat.blt e n = true:=by exact rfl) (hs:notSelect op = true:=by exact rfl) (hd:Nat.blt d n = true:=by exact rfl):AWl P s0 n ops Q (⟨some d,op,ty,ps,af,some (j,b)⟩ :: rest) ⟨fr,hp⟩:=AWs.qG hy hl hen hs hd ⟨r,hq,h⟩
theorem Ws {j : Nat} {b:Bool} {u:Value} {e:Nat} (h:AWl P s0 n ops Q rest ⟨(d,.d (ex undef)) :: fr,hp⟩) (hy:(ops[j]?).bind (·.dst) = some e:=by exact rfl) (hl:look fr e = some (.d (ex u)):=by exact rfl) (hne:isB u b = false:=by exact rfl) (hen:Nat.blt e n = true:=by exact rfl) (hd:Nat.blt d n = true:=by exact rfl):AWl P s0 n ops Q (⟨some d,op,ty,ps,af,some (j,b)⟩ :: rest) ⟨fr,hp⟩:=AWs.sG hy hl hne hen hd h
end
section
variable {P : Program} {σ:AS} {K:List HR→Prop} {acc acc':List HR} {o:Oper} {L:List Oper} {e:List (Nat × Nat)} {es:List (List (Nat × Nat))} {r:AV}
theorem Xq (hq : Quiet P σ.hp o (argH σ acc e) r) (h:HS P σ K acc' L es) (hg:o.guard = none:=by exact rfl) (ha:snocH acc (.av r) = some acc':=by exact rfl):HS P σ K acc (o :: L) (e :: es):=⟨_,HStep.q hg hq,_,ha,h⟩
theorem Xg {j : Nat} {b:Bool} (hq:Quiet P σ.hp o (argH σ acc e) r) (h:HS P σ K acc' L es) (hg:o.guard = some (j,b):=by exact rfl) (hj:acc[j]? = some (.av (.d (ex (.bool b)))):=by exact rfl) (ha:snocH acc (.av r) = some acc':=by exact rfl):HS P σ K acc (o :: L) (e :: es):=⟨_,HStep.gT hg hj hq,_,ha,h⟩
theorem Xs {j : Nat} {b:Bool} {u:Value} (h:HS P σ K acc' L es) (hg:o.guard = some (j,b):=by exact rfl) (hj:acc[j]? = some (.av (.d (ex u))):=by exact rfl) (hne:isB u b = false:=by exact rfl) (ha:snocH acc (.av (.d (ex undef))) = some acc':=by exact rfl):HS P σ K acc (o :: L) (e :: es):=⟨_,HStep.gF hg hj hne,_,ha,h⟩
theorem Xn {T n b:Nat} {d:TypeDesc} {z:Value} (h:HS P σ K acc' L es) (hg:o.guard = none:=by exact rfl) (hop:o.op = .alloc T:=by exact rfl) (ht:Tab P T d n b z:=by exact tab_of rfl) (hT:T ≠ 137:=by decide) (h1:one1 z.cells.toList = true:=by exact rfl) (ha:snocH acc (.new T z.cells.toList) = some acc':=by exact rfl):HS P σ K acc (o :: L) (e :: es):=⟨_,HStep.n hg ht hop hT h1,_,ha,h⟩
end
end Go.Proofs.YteicdddphdomkaaGreat
set_option linter.unusedSimpArgs false
set_option linter.unusedVariables false
namespace Go.Proofs.YteicdddphdomkaaGreat
open Go.RowKit
section
variable {P : Program} {s0:An} {n:Nat} {ops:Array Oper} {Q:Exit→AS→Prop} {σ:AS}
theorem Yn {K : AS→Prop} (h:K σ):AThen K Q .normal σ:=AThen.normal h
theorem Y0 {K : AS→Prop} (h:K σ):AWl P s0 n ops (AThen K Q) [] σ:=AWl.nil (AThen.normal h)
theorem Y1 {y : Code} {i:Nat} {l:List Oper} (h:AWl P s0 n l.toArray (AThen (AWp P s0 n y Q) Q) l σ):AWp P s0 n (.seq (.region i l.toArray false) y) Q σ:=AWp.seq (AWp.region h)
theorem Ys {K : AS→Prop} (h:K σ):AWp P s0 n .skip (AThen K Q) σ:=AWp.skip (AThen.normal h)
end
theorem Yf {P : Program} {fn:Func} {r:D} {σ:AS} {t:Nat} {av:AV} (hr:fn.results = #[.tmp t]:=by exact rfl) (h:look σ.fr t = some av:=by exact rfl) (hx:asD σ.hp av = some r:=by exact rfl):Fin P fn r .ret σ:=Fin.ret (by rw [hr];exact Rets.of1 (ResV.tmp h hx) (D.le.refl _))
theorem Ab {P : Program} {f : FuncId} {fn : Func} {c : Code} {ds : List D} {r : D} (hf : P.funcs[f]? = some fn) (h : ∀ s0, AWp P s0 fn.ntmps c (Fin P fn r) ⟨params 0 ds, []⟩) (hb : fn.body = some c := by exact rfl) (h1 : (fn.name == "runtime.NumGoroutine") = false := by kernel_rfl) (h2 : fn.body.isNone = false := by kernel_rfl) (hn : Nat.ble ds.length fn.ntmps = true := by exact rfl) : Abs P f ds r := Abs.intro hf hb (callFunc_run hf h1 h2) hn h
section
variable {P : Program} {s0:An} {n:Nat} {ops:Array Oper} {Q:Exit→AS→Prop} {fr:List (Nat × AV)} {hp hp':List Ow} {rest:List Oper} {ty:TypeId} {ps:String} {af:Array Edge} {d:Nat} {x:Operand} {r:AV}
theorem Wm (h : AWl P s0 n ops Q rest ⟨(d,r) :: fr,hp⟩) (hx:AS.arg ⟨fr,hp⟩ x = r:=by exact ao rfl) (hd:Nat.blt d n = true:=by exact rfl):AWl P s0 n ops Q (⟨some d,.move x,ty,ps,af,none⟩ :: rest) ⟨fr,hp⟩:=Wq (Qs.move hx) h rfl hd
theorem Wa (h : AWl P s0 n ops Q rest ⟨(d,r) :: fr,hp⟩) (hx:AS.arg ⟨fr,hp⟩ x = r:=by exact ao rfl) (hd:Nat.blt d n = true:=by exact rfl):AWl P s0 n ops Q (⟨some d,.assign x,ty,ps,af,none⟩ :: rest) ⟨fr,hp⟩:=Wq (Qs.assign hx) h rfl hd
theorem Ct {y z:Code} (h:AWp P s0 n y Q ⟨fr,hp⟩) (hx:AS.arg ⟨fr,hp⟩ x = .d (ex (.bool true)):=by exact ao rfl):AWp P s0 n (.cond x y z) Q ⟨fr,hp⟩:=AWp.condT hx h
theorem Cf {y z:Code} (h:AWp P s0 n z Q ⟨fr,hp⟩) (hx:AS.arg ⟨fr,hp⟩ x = .d (ex (.bool false)):=by exact ao rfl):AWp P s0 n (.cond x y z) Q ⟨fr,hp⟩:=AWp.condF hx h
theorem Sf {T T0:TypeId} {t:TypeDesc} {b id m:Nat} {z:Value} {y:Operand} {cells:List AV} {ds:List D} (h:AWl Tryz.prog s0 n ops Q rest ⟨fr,hp'⟩) (hx:AS.arg ⟨fr,hp⟩ x = .ptr id 0:=by exact ao rfl) (hy:AS.arg ⟨fr,hp⟩ y = .d (agD ds):=by exact ao rfl) (hh:hp[id]? = some (.var T0 cells):=by exact rfl) (ht:Tab Tryz.prog T t m b z:=by exact tab_of rfl) (hm:ds.length = m:=by exact rfl) (hoff:cells.length = m:=by exact rfl) (hs:setO hp id (.var T0 (ds.map .d)) = some hp':=by exact rfl):AWl Tryz.prog s0 n ops Q (⟨none,.store T x y,ty,ps,af,none⟩ :: rest) ⟨fr,hp⟩:=AWs.stF hx hy hh ht hm hoff hs h
end
section
variable {hp : List Ow} {m T z:Nat} {l l':List Ow}
theorem Yr {r : List (List D)} (h:HpLe hp m l l'):HpLe hp m (.row T z r :: l) (.row T z r :: l'):=HpLe.cons (OwLe.row rfl) h
theorem Yv {c : List D} (h:HpLe hp m l l'):HpLe hp m (.var T (c.map .d) :: l) (.var T (c.map .d) :: l'):=HpLe.cons (OwLe.varD rfl) h
theorem Yd {t : Nat} {x:D} {f r:List (Nat × AV)} (h:FrLe hp m f r) (hk:look f t = some (.d x):=by exact rfl):FrLe hp m f ((t,.d x) :: r):=FrLe.cons hk (AVle.d rfl) h
theorem Yp {t i o:Nat} {f r:List (Nat × AV)} (h:FrLe hp m f r) (hk:look f t = some (.ptr i o):=by exact rfl) (hi:Nat.blt i m = true:=by exact rfl):FrLe hp m f ((t,.ptr i o) :: r):=FrLe.cons hk (AVle.ptr hi) h
end
theorem K4 {e : Nat} {a b c d:Oper} {l l':List Oper} (h:AddE e l l'):AddE e (a :: b :: c :: d :: l) (a :: b :: c :: d :: l'):=.keep (.keep (.keep (.keep h)))
end Go.Proofs.YteicdddphdomkaaGreat
namespace Go.Proofs.YteicdddphdomkaaGreat
open Go.RowKit
def pins (lost : List Nat):Nat→List Value→List (Value × AV)
 | _,[]=>[]
 | i,v :: vs=>bif lost.contains i then pins lost (i+1) vs else (v,.own i) :: pins lost (i+1) vs
theorem pins_cons (lost : List Nat) (i:Nat) (v:Value) (vs:List Value):pins lost i (v :: vs) = if i∈lost then pins lost (i+1) vs else (v,.own i) :: pins lost (i+1) vs:=by
 show (bif lost.contains i then pins lost (i+1) vs else (v,.own i) :: pins lost (i+1) vs) = _
 by_cases h:i∈lost
 ·rw [if_pos h,List.contains_iff_mem.2 h];rfl
 ·have : lost.contains i = false := by cases hb : lost.contains i with
   | true=>exact absurd (List.contains_iff_mem.1 hb) h
   | false=>rfl
  rw [if_neg h,this];rfl
theorem pins_mem {lost : List Nat}:∀ {vs:List Value} {i:Nat} {p:Value × AV},p∈pins lost i vs→∃ k,k<vs.length∧p = (vs.getD k undef,.own (i+k))
 | [],i,p,h=>by cases h
 | v :: vs,i,p,h=>by
  rw [pins_cons] at h
  have key:p∈pins lost (i+1) vs→∃ k,k<(v :: vs).length∧p = ((v :: vs).getD k undef,.own (i+k)):=fun h=>by
   obtain ⟨k,h1,h2⟩:=pins_mem h
   exact ⟨k+1,by simpa using h1,by rw [h2,show i+1+k = i+(k+1) by omega];rfl⟩
  split at h
  ·exact key h
  ·rcases List.mem_cons.1 h with rfl | h
   ·exact ⟨0,by simp,rfl⟩
   ·exact key h
theorem pins_get {lost : List Nat}:∀ {vs:List Value} {i k:Nat},k<vs.length→i+k ∉ lost→(vs.getD k undef,AV.own (i+k))∈pins lost i vs
 | [],i,k,h,_=>by simp at h
 | v :: vs,i,0,h,hl=>by
  rw [pins_cons,if_neg (by simpa using hl)]
  exact List.mem_cons_self
 | v :: vs,i,k+1,h,hl=>by
  have:=pins_get (lost:=lost) (vs:=vs) (i:=i+1) (k:=k) (by simpa using h) (by rwa [show i+1+k = i+(k+1) by omega])
  rw [show i+1+k = i+(k+1) by omega] at this
  rw [pins_cons]
  split
  ·exact this
  ·exact List.mem_cons_of_mem _ this
def mineOf (s : GS) (ρ:Nat→Value) (hp:List Ow) (b:Nat):Prop:=∃ i o,hp[i]? = some o∧OwB s (ρ i) o b
def Sep (s : GS) (ρ:Nat→Value) (hp:List Ow):Prop:=∀ i j o o',i ≠ j→hp[i]? = some o→hp[j]? = some o'→∀ b,OwB s (ρ i) o b→¬ OwB s (ρ j) o' b
structure Aft (s : GS) (ρ:Nat→Value) (hp:List Ow) (lost:List Nat) (s':GS) (ρ':Nat→Value) (hp':List Ow):Prop where
 le:GS.LeX (mineOf s ρ hp) s s'
 ok:s'.Ok
 mem:HpOk 0 ρ' s' hp'
 sep:Sep s' ρ' hp'
 own:∀ i o b,hp'[i]? = some o→OwB s' (ρ' i) o b→mineOf s ρ hp b∨s.w.heap.size≤b
 kp:∀ i,i<hp.length→i ∉ lost→ρ' i = ρ i
 len:hp.length≤hp'.length
def Con (P : Program) (f:FuncId) (args:List AV) (hp:List Ow) (lost:List Nat) (Q:AV→List Ow→Prop):Prop :=
 (∀ args w,(callFunc f args).run P w = .ok (.enter f args) w)∧∀ (s:GS) (ρ:Nat→Value) (vs:List Value),s.Ok→HpOk 0 ρ s hp→Sep s ρ hp→vs.length = args.length→(∀ (k:Nat) av,args[k]? = some av→AVr hp.length ρ s av (vs.getD k undef)) →
  Calls P f vs.toArray s.w fun e w'=>∃ v,e = .returned v∧∃ (s':GS) (ρ':Nat→Value) (r:AV) (hp':List Ow),Q r hp'∧s'.w = w'∧AVr hp'.length ρ' s' r v∧Aft s ρ hp lost s' ρ' hp'
def paramsA : Nat→List AV→List (Nat × AV)
 | _,[]=>[]
 | i,d :: ds=>(i,d) :: paramsA (i+1) ds
theorem paramsA_look : ∀ {ds:List AV} {i t:Nat} {av:AV},look (paramsA i ds) t = some av→i≤t∧ds[t - i]? = some av
 | [],i,t,av,h=>by cases h
 | d :: ds,i,t,av,h=>by
  unfold paramsA at h
  rw [look_cons] at h
  split at h
  ·rename_i e
   subst e
   cases h
   exact ⟨Nat.le_refl _,by simp⟩
  ·rename_i e
   obtain ⟨h1,h2⟩:=paramsA_look h
   refine ⟨by omega,?_⟩
   rw [show t - i = (t - (i+1))+1 by omega]
   simpa using h2
structure RetsA (P : Program) (σ:AS) (rs:Array ResultVar) (r:AV):Prop where
 run:∀ (base:Nat) (ρ:Nat→Value) (s:GS) (tmps:Array Value) (fn:Func),fn.results = rs→HpOk base ρ s σ.hp→(∀ t av,look σ.fr t = some av→AVr σ.hp.length ρ s av (tmps.getD t undef))→∃ v,(results fn tmps).run P s.w = .ok v s.w∧AVr σ.hp.length ρ s r v
theorem RetsA.d {P : Program} {σ:AS} {rs:Array ResultVar} {r:D} (h:Rets P σ rs r):RetsA P σ rs (.d r):=⟨h.run⟩
theorem RetsA.one {P : Program} {σ:AS} {t:Nat} {r:AV} (h:look σ.fr t = some r):RetsA P σ #[.tmp t] r:=⟨fun _ _ _ tmps _ hf _ hfr=>⟨_,results_1 hf (rv:=.tmp t) rfl,hfr t r h⟩⟩
structure FinC (P : Program) (fn:Func) (lost:List Nat) (vs:List Value) (Q:AV→List Ow→Prop) (e:Exit) (σ:AS):Prop where
 how:e = .ret∨e = .normal
 res:∃ r hp',RetsA P σ fn.results r∧hp' = σ.hp.set vs.length .dead∧Q r hp'
 pin:σ.hp[vs.length]? = some (.pin (pins lost 0 vs))
theorem Con.introG {P : Program} {f:FuncId} {fn:Func} {c:Code} {args:List AV} {hp:List Ow} {lost:List Nat} {Q:AV→List Ow→Prop} (hf:P.funcs[f]? = some fn) (hb:fn.body = some c) (hcf:∀ args w,(callFunc f args).run P w = .ok (.enter f args) w) (hn:Nat.ble args.length fn.ntmps = true)
  (h:∀ (s0:An) (vs:List Value),vs.length = hp.length→AWp P s0 fn.ntmps c (FinC P fn lost vs Q) ⟨paramsA 0 args,hp ++ [.pin (pins lost 0 vs)]⟩):Con P f args hp lost Q:=by
 refine ⟨hcf,fun s ρ vs hok hhp hsep hl hv=>calls_of_wp hf hb ?_⟩
 have hn':args.length≤fn.ntmps:=by simpa [Nat.ble_eq] using hn
 have hpl:((List.range hp.length).map ρ).length = hp.length:=by simp
 have hlen:(hp ++ [Ow.pin (pins lost 0 ((List.range hp.length).map ρ))]).length = hp.length+1:=by simp
 have hget:∀ i o,(hp ++ [Ow.pin (pins lost 0 ((List.range hp.length).map ρ))])[i]? = some o→hp[i]? = some o∨o = Ow.pin (pins lost 0 ((List.range hp.length).map ρ)):=fun i o hi=>by
  rw [List.getElem?_append] at hi
  split at hi
  ·exact .inl hi
  ·rename_i hge
   have:i - hp.length = 0:=by
    have:=live_lt hi
    simp at this
    omega
   rw [this] at hi
   exact .inr (Option.some.inj hi).symm
 have hval:∀ k,k<hp.length→((List.range hp.length).map ρ).getD k undef = ρ k:=fun k hk=>by
  rw [List.getD_eq_getElem?_getD,List.getElem?_map,List.getElem?_range hk]
  rfl
 refine wp_mono ((h ⟨s,mineOf s ρ hp⟩ ((List.range hp.length).map ρ) hpl).run { tmps:=vs.toArray ++ Array.replicate (fn.ntmps - vs.toArray.size) undef,defers:=[] } s.w ⟨s,ρ,rfl,GS.LeX.refl _ s,hok,fun t av ht=>?_,by simp;omega,rfl,fun i o hi=>?_,fun i j o o' hij hi hj b hbi hbj=>?_,fun i o b hi hbi=>?_⟩) ?_
 ·obtain ⟨_,h2⟩:=paramsA_look ht
  rw [Nat.sub_zero] at h2
  have h3:t<args.length:=(List.getElem?_eq_some_iff.1 h2).1
  have h4:=hv t av h2
  have:(vs.toArray ++ Array.replicate (fn.ntmps - vs.toArray.size) undef).getD t undef = vs.getD t undef:=by
   rw [Array.getD_eq_getD_getElem?,Array.getElem?_append_left (by simp;omega)]
   simp
  show AVr (hp ++ [Ow.pin _]).length ρ s av ((vs.toArray ++ Array.replicate (fn.ntmps - vs.toArray.size) undef).getD t undef)
  rw [this,hlen]
  exact h4.mono (Nat.le_succ _) fun _ _=>rfl
 ·show OwR 0 (hp ++ [Ow.pin _]).length ρ s i o
  rw [hlen]
  rcases hget i o hi with h1 | rfl
  ·exact (hhp i o h1).mono (Nat.le_succ _) (fun _ _=>rfl) (live_lt h1)
  ·intro p hp'
   obtain ⟨k,h1,rfl⟩:=pins_mem hp'
   rw [hpl] at h1
   rw [Nat.zero_add]
   exact ⟨by omega,hval k h1⟩
 ·rcases hget i o hi with h1 | rfl
  ·rcases hget j o' hj with h2 | rfl
   ·exact hsep i j o o' hij h1 h2 b hbi hbj
   ·exact hbj.elim
  ·exact hbi.elim
 ·rcases hget i o hi with h1 | rfl
  ·exact .inl ⟨i,o,h1,hbi⟩
  ·exact hbi.elim
 ·intro e a w ⟨τ,⟨he,⟨r,hp',hR,hhp',hQ⟩,hpin⟩,s',ρ',hw,hst⟩
  subst hw
  subst hhp'
  rw [hpl] at hpin hQ
  obtain ⟨v,h1,h2⟩:=hR.run _ ρ' s' a.tmps fn rfl hst.hp hst.fr
  have hg:∀ i o,(τ.hp.set hp.length .dead)[i]? = some o→o = Ow.dead∨τ.hp[i]? = some o:=fun i o hi=>by
   rw [List.getElem?_set] at hi
   split at hi
   ·split at hi
    ·exact .inl (Option.some.inj hi).symm
    ·cases hi
   ·exact .inr hi
  have hfin:Aft s ρ hp lost s' ρ' (τ.hp.set hp.length .dead):=by
   refine ⟨hst.le,hst.ok,fun i o hi=>?_,fun i j o o' hij hi hj b hbi hbj=>?_,fun i o b hi hbi=>?_,fun i hi hnl=>?_,?_⟩
   ·rw [List.length_set]
    rcases hg i o hi with rfl | h3
    ·trivial
    ·exact hst.hp i o h3
   ·rcases hg i o hi with rfl | h3
    ·exact hbi.elim
    ·rcases hg j o' hj with rfl | h4
     ·exact hbj.elim
     ·exact hst.sep i j o o' hij h3 h4 b hbi hbj
   ·rcases hg i o hi with rfl | h3
    ·exact hbi.elim
    ·exact hst.own i o b h3 hbi
   ·have h3 := hst.hp _ _ hpin _ (pins_get (i := 0) (k := i) (by rw [hpl]; exact hi) (by rw [Nat.zero_add]; exact hnl))
    rw [hval i hi,Nat.zero_add] at h3
    exact h3.2.symm
   ·rw [List.length_set]
    exact Nat.le_of_lt (live_lt hpin)
  have h2':AVr (τ.hp.set hp.length .dead).length ρ' s' r v:=by rw [List.length_set];exact h2
  rcases he with rfl | rfl
  ·exact ⟨hst.df,v,h1,v,rfl,s',ρ',r,_,hQ,rfl,h2',hfin⟩
  ·exact ⟨hst.df,v,h1,v,rfl,s',ρ',r,_,hQ,rfl,h2',hfin⟩
section
variable {P : Program} {f:FuncId} {fn:Func} {c:Code} {args:List AV} {Q:AV→List Ow→Prop} (hf:P.funcs[f]? = some fn) (hb:fn.body = some c) (hcf:∀ args w,(callFunc f args).run P w = .ok (.enter f args) w) (hn:Nat.ble args.length fn.ntmps = true)
include hf hb hcf hn
theorem Con.intro0 (h : ∀ (s0:An),AWp P s0 fn.ntmps c (FinC P fn [] [] Q) ⟨paramsA 0 args,[.pin []]⟩):Con P f args [] [] Q :=
 Con.introG hf hb hcf hn fun s0 vs hv=>by
  match vs,hv with
  | [],_=>exact h s0
theorem Con.intro10 {o0 o1 o2 o3 o4 o5 o6 o7 o8 o9:Ow} (h:∀ (s0:An) (v0 v1 v2 v3 v4 v5 v6 v7 v8 v9:Value),AWp P s0 fn.ntmps c (FinC P fn [2,3,4,5,6,7,8,9] [v0,v1,v2,v3,v4,v5,v6,v7,v8,v9] Q) ⟨paramsA 0 args,[o0,o1,o2,o3,o4,o5,o6,o7,o8,o9,.pin [(v0,.own 0),(v1,.own 1)]]⟩):Con P f args [o0,o1,o2,o3,o4,o5,o6,o7,o8,o9] [2,3,4,5,6,7,8,9] Q :=
 Con.introG hf hb hcf hn fun s0 vs hv=>by
  match vs,hv with
  | [v0,v1,v2,v3,v4,v5,v6,v7,v8,v9],_=>exact h s0 v0 v1 v2 v3 v4 v5 v6 v7 v8 v9
end
theorem FinC.ret {P : Program} {fn:Func} {lost:List Nat} {vs:List Value} {Q:AV→List Ow→Prop} {σ:AS} {r:AV} {hp':List Ow} (h:RetsA P σ fn.results r) (hs:setO σ.hp vs.length .dead = some hp') (hQ:Q r hp') (hp:σ.hp[vs.length]? = some (.pin (pins lost 0 vs))):FinC P fn lost vs Q .ret σ:=⟨.inl rfl,⟨r,hp',h,(setO_eq hs),hQ⟩,hp⟩
def AV.ren (e : Nat→Nat):AV→AV
 | .d x=>.d x
 | .ptr i off=>.ptr (e i) off
 | .own i=>.own (e i)
 | .fn f caps=>.fn f (caps.map e)
def Ow.ren (e : Nat→Nat):Ow→Ow
 | .var T cells=>.var T (cells.map (AV.ren e))
 | .pin l=>.pin (l.map fun p=>(p.1,p.2.ren e))
 | o=>o
def AV.below (m : Nat):AV→Bool
 | .d _=>true
 | .ptr i _=>Nat.blt i m
 | .own i=>Nat.blt i m
 | .fn _ caps=>caps.all (Nat.blt · m)
def Ow.below (m : Nat):Ow→Prop
 | .var _ cells=>∀ av∈cells,av.below m = true
 | .pin l=>∀ p∈l,p.2.below m = true
 | _=>True
theorem AV.below_le {hp : List Ow} {m:Nat} {av:AV} (h:av.below m = true):AVle hp m av av:=by
 cases av with
 | d x=>exact AVle.d rfl
 | ptr i off=>exact AVle.ptr h
 | own i=>exact AVle.own h
 | fn f caps=>exact AVle.fn h
theorem OwLe.pinB {hp : List Ow} {m:Nat} {l:List (Value × AV)} (h:l.all (fun p=>p.2.below m) = true):OwLe hp m (.pin l) (.pin l):=OwLe.pin fun p hp=>AV.below_le (List.all_eq_true.1 h p hp)
theorem OwLe.varB {hp : List Ow} {m T:Nat} {c:List AV} (h:c.all (AV.below m) = true):OwLe hp m (.var T c) (.var T c):=OwLe.var rfl fun k y hy=>⟨y,hy,AV.below_le (List.all_eq_true.1 h y (List.mem_of_getElem? hy))⟩
theorem OwB_ren {s : GS} {v:Value} {e:Nat→Nat} {o:Ow} {b:Nat}:OwB s v (o.ren e) b↔OwB s v o b:=by cases o <;> exact Iff.rfl
theorem AVr.un {m m':Nat} {ρ ρ':Nat→Value} {e:Nat→Nat} {s:GS} {av:AV} {v:Value} (h:AVr m ρ s (av.ren e) v) (hb:av.below m' = true) (hρ:∀ i,i<m'→ρ' i = ρ (e i)):AVr m' ρ' s av v:=by
 cases av with
 | d x=>exact h
 | ptr i off =>
  have hi:i<m':=by simpa [AV.below,Nat.blt_eq] using hb
  obtain ⟨h1,b,h2,h3⟩:=h
  exact ⟨hi,b,(hρ i hi).trans h2,h3⟩
 | own i =>
  have hi:i<m':=by simpa [AV.below,Nat.blt_eq] using hb
  exact ⟨hi,h.2.trans (hρ i hi).symm⟩
 | fn f caps =>
  have hi:∀ i∈caps,i<m':=fun i hi=>by
   have:=List.all_eq_true.1 hb i hi
   simpa [Nat.blt_eq] using this
  refine ⟨hi,?_⟩
  have h2:=h.2
  rw [List.map_map] at h2
  rw [h2]
  exact congrArg (fun l=>Value.func (Fn.func f) #[] (List.toArray l)) (List.map_congr_left fun i hm=>(hρ i (hi i hm)).symm)
theorem AVr.re {m m':Nat} {ρ ρ':Nat→Value} {e:Nat→Nat} {s:GS} {av:AV} {v:Value} (h:AVr m ρ s av v) (he:∀ i,i<m→e i<m') (hρ:∀ i,i<m→ρ' (e i) = ρ i):AVr m' ρ' s (av.ren e) v:=by
 cases av with
 | d x=>exact h
 | ptr i off =>
  obtain ⟨h1,b,h2,h3⟩:=h
  exact ⟨he i h1,b,(hρ i h1).trans h2,h3⟩
 | own i=>exact ⟨he i h.1,h.2.trans (hρ i h.1).symm⟩
 | fn f caps =>
  refine ⟨fun i hi=>?_,?_⟩
  ·obtain ⟨j,hj,rfl⟩:=List.mem_map.1 hi
   exact he j (h.1 j hj)
  ·rw [List.map_map,h.2,List.map_congr_left fun i hi=>(hρ i (h.1 i hi)).symm]
   rfl
theorem OwR.un {m m':Nat} {ρ ρ':Nat→Value} {e:Nat→Nat} {s:GS} {i:Nat} {o:Ow} (h:OwR 0 m ρ s (e i) (o.ren e)) (hb:o.below m') (hi:i<m') (hρ:∀ i,i<m'→ρ' i = ρ (e i)):OwR 0 m' ρ' s i o:=by
 cases o with
 | dead=>trivial
 | var T cells =>
  obtain ⟨b,cs,h1,h2,h3,h4,h5,h6,h7⟩:=h
  refine ⟨b,cs,(hρ i hi).trans h1,h2,h3,by simpa using h4,h5,h6,fun k av hk=>?_⟩
  obtain ⟨u,h8,h9,h10⟩:=h7 k (av.ren e) (by rw [List.getElem?_map,hk];rfl)
  exact ⟨u,h8,h9,h10.un (hb av (List.mem_of_getElem? hk)) hρ⟩
 | row T sz rows =>
  replace h:OwR 0 m ρ s (e i) (.row T sz rows):=h
  unfold OwR at h ⊢
  rw [hρ i hi]
  exact h
 | obj O =>
  show O.rel s (ρ' i)
  rw [hρ i hi]
  exact h
 | pin l=>exact fun p hp=>(h (p.1,p.2.ren e) (List.mem_map_of_mem (f:=fun p:Value × AV=>(p.1,p.2.ren e)) hp)).un (hb p hp) hρ
theorem OwR.re {m m':Nat} {ρ ρ':Nat→Value} {e:Nat→Nat} {s:GS} {i:Nat} {o:Ow} (h:OwR 0 m ρ s i o) (hi:i<m) (he:∀ i,i<m→e i<m') (hρ:∀ i,i<m→ρ' (e i) = ρ i):OwR 0 m' ρ' s (e i) (o.ren e):=by
 cases o with
 | dead=>trivial
 | var T cells =>
  obtain ⟨b,cs,h1,h2,h3,h4,h5,h6,h7⟩:=h
  refine ⟨b,cs,(hρ i hi).trans h1,h2,h3,by simpa using h4,h5,h6,fun k av hk=>?_⟩
  rw [List.getElem?_map] at hk
  cases hk0:cells[k]? with
  | none=>rw [hk0] at hk;cases hk
  | some av0 =>
   rw [hk0] at hk
   cases hk
   obtain ⟨u,h8,h9,h10⟩:=h7 k av0 hk0
   exact ⟨u,h8,h9,h10.re he hρ⟩
 | row T sz rows =>
  show OwR 0 m' ρ' s (e i) (.row T sz rows)
  unfold OwR at h ⊢
  rw [hρ i hi]
  exact h
 | obj O =>
  show O.rel s (ρ' (e i))
  rw [hρ i hi]
  exact h
 | pin l =>
  intro p hp
  obtain ⟨q,hq,rfl⟩:=List.mem_map.1 hp
  exact (h q hq).re he hρ
def eOut (sel : List Nat) (m k:Nat):Nat:=bif Nat.blt k sel.length then sel.getD k 0 else m+(k - sel.length)
theorem eOut_lt {sel : List Nat} {m k:Nat} (h:k<sel.length):eOut sel m k = sel.getD k 0:=by
 have:Nat.blt k sel.length = true:=by simpa [Nat.blt_eq] using h
 rw [eOut,this];rfl
theorem eOut_ge {sel : List Nat} {m k:Nat} (h:sel.length≤k):eOut sel m k = m+(k - sel.length):=by
 have:Nat.blt k sel.length = false:=by cases hb:Nat.blt k sel.length <;> simp_all [Nat.blt_eq];omega
 rw [eOut,this];rfl
def SelR (e : Nat→Nat) (H:List Ow) (m:Nat):List Nat→List Ow→Prop
 | [],[]=>True
 | j :: js,o :: os=>H[j]? = some (o.ren e)∧o.below m∧SelR e H m js os
 | _,_=>False
theorem SelR.get {e : Nat→Nat} {H:List Ow} {m:Nat}:∀ {js:List Nat} {os:List Ow},SelR e H m js os→js.length = os.length∧∀ (k:Nat) o,os[k]? = some o→H[js.getD k 0]? = some (o.ren e)∧o.below m
 | [],[],_=>⟨rfl,fun k o h=>by cases h⟩
 | [],_ :: _,h=>h.elim
 | _ :: _,[],h=>h.elim
 | j :: js,o :: os,⟨h1,h2,h3⟩=>by
  obtain ⟨h4,h5⟩:=SelR.get h3
  refine ⟨by simp [h4],fun k x hx=>?_⟩
  cases k with
  | zero=>cases hx;exact ⟨h1,h2⟩
  | succ k=>exact h5 k x (by simpa using hx)
def SetR (e : Nat→Nat):List Ow→List Nat→List Ow→List Ow→Prop
 | H,[],_,H'=>H = H'
 | H,j :: js,o :: os,H'=>SetR e (H.set j (o.ren e)) js os H'
 | _,_ :: _,[],_=>False
theorem SetR.get {e : Nat→Nat}:∀ {js:List Nat} {H os H':List Ow},SetR e H js os H'→H'.length = H.length∧js.length≤os.length∧∀ (i:Nat) x,H'[i]? = some x→(∃ k o,k<js.length∧js.getD k 0 = i∧os[k]? = some o∧x = o.ren e)∨(i ∉ js∧H[i]? = some x)
 | [],H,os,H',h=>by
  have h:H = H':=by cases os <;> exact h
  subst h
  exact ⟨rfl,Nat.zero_le _,fun i x hx=>.inr ⟨by simp,hx⟩⟩
 | _ :: _,_,[],_,h=>h.elim
 | j :: js,H,o :: os,H',h=>by
  replace h:SetR e (H.set j (o.ren e)) js os H':=h
  obtain ⟨h1,h2,h3⟩:=SetR.get h
  refine ⟨by simpa using h1,by simp;omega,fun i x hx=>?_⟩
  rcases h3 i x hx with ⟨k,o',h4,h5,h6,h7⟩ | ⟨h4,h5⟩
  ·exact .inl ⟨k+1,o',by simp;omega,by simpa using h5,by simpa using h6,h7⟩
  ·rw [List.getElem?_set] at h5
   split at h5
   ·rename_i e1
    subst e1
    split at h5
    ·exact .inl ⟨0,o,by simp,rfl,rfl,(Option.some.inj h5).symm⟩
    ·cases h5
   ·rename_i e1
    exact .inr ⟨by simp only [List.mem_cons,not_or];exact ⟨fun e=>e1 e.symm,h4⟩,h5⟩
theorem nodup_inj {l : List Nat} (h:l.Nodup) {i j:Nat} (hi:i<l.length) (hj:j<l.length) (e:l[i] = l[j]):i = j:=by
 rcases Nat.lt_trichotomy i j with h1 | h1 | h1
 ·exact absurd e (List.pairwise_iff_getElem.1 h i j hi hj h1)
 ·exact h1
 ·exact absurd e.symm (List.pairwise_iff_getElem.1 h j i hj hi h1)
def AV.avoid (lost : List Nat):AV→Bool
 | .d _=>true
 | .ptr i _ => !lost.contains i
 | .own i => !lost.contains i
 | .fn _ caps=>caps.all fun i => !lost.contains i
def Ow.avoid (lost : List Nat):Ow→Prop
 | .var _ cells=>∀ av∈cells,av.avoid lost = true
 | .pin l=>∀ p∈l,p.2.avoid lost = true
 | _=>True
theorem not_cont {lost : List Nat} {i:Nat} (h:(!lost.contains i) = true):i ∉ lost:=fun hm=>by
 rw [List.contains_iff_mem.2 hm] at h
 cases h
theorem AVr.kept {m m':Nat} {ρ ρ':Nat→Value} {s:GS} {av:AV} {v:Value} {lost:List Nat} (h:AVr m ρ s av v) (hm:m≤m') (ha:av.avoid lost = true) (hρ:∀ i,i<m→i ∉ lost→ρ' i = ρ i):AVr m' ρ' s av v:=by
 cases av with
 | d x=>exact h
 | ptr i off =>
  obtain ⟨h1,b,h2,h3⟩:=h
  exact ⟨Nat.lt_of_lt_of_le h1 hm,b,(hρ i h1 (not_cont ha)).trans h2,h3⟩
 | own i=>exact ⟨Nat.lt_of_lt_of_le h.1 hm,h.2.trans (hρ i h.1 (not_cont ha)).symm⟩
 | fn f caps=>exact ⟨fun i hi=>Nat.lt_of_lt_of_le (h.1 i hi) hm,by rw [h.2,List.map_congr_left fun i hi=>(hρ i (h.1 i hi) (not_cont (List.all_eq_true.1 ha i hi))).symm]⟩
theorem OwR.kept {m m':Nat} {ρ ρ':Nat→Value} {s:GS} {i:Nat} {o:Ow} {lost:List Nat} (h:OwR 0 m ρ s i o) (hm:m≤m') (ha:o.avoid lost) (hi:i<m) (hl:i ∉ lost) (hρ:∀ i,i<m→i ∉ lost→ρ' i = ρ i):OwR 0 m' ρ' s i o:=by
 cases o with
 | dead=>trivial
 | var T cells =>
  obtain ⟨b,cs,h1,h2,h3,h4,h5,h6,h7⟩:=h
  refine ⟨b,cs,(hρ i hi hl).trans h1,h2,h3,h4,h5,h6,fun k av hk=>?_⟩
  obtain ⟨u,h8,h9,h10⟩:=h7 k av hk
  exact ⟨u,h8,h9,h10.kept hm (ha av (List.mem_of_getElem? hk)) hρ⟩
 | row T sz rows =>
  unfold OwR at h ⊢
  rw [hρ i hi hl]
  exact h
 | obj O =>
  unfold OwR at h ⊢
  rw [hρ i hi hl]
  exact h
 | pin l=>exact fun p hp=>(h p hp).kept hm (ha p hp) hρ
theorem StI.con {s0 : An} {n:Nat} {σ:AS} {a:Act} {s s':GS} {ρ ρ':Nat→Value} {sel lost:List Nat} {hpS hp' H1:List Ow} (hav:(∀ p∈σ.fr,p.2.avoid (lost.map (eOut sel σ.hp.length)) = true)∧∀ i o,i ∉ sel→σ.hp[i]? = some o→o.avoid (lost.map (eOut sel σ.hp.length))) (hll:∀ k∈lost,k<sel.length) (h:StI s0 n σ a s ρ) (hnd:sel.Nodup) (hsel:SelR (eOut sel σ.hp.length) σ.hp hpS.length sel hpS)
  (haft:Aft s (fun k=>ρ (eOut sel σ.hp.length k)) hpS lost s' ρ' hp') (hset:SetR (eOut sel σ.hp.length) σ.hp sel hp' H1) :
  ∃ ρ'',StI s0 n ⟨σ.fr,H1 ++ (hp'.drop sel.length).map (Ow.ren (eOut sel σ.hp.length))⟩ a s' ρ''∧∀ av v,AVr hp'.length ρ' s' av v→AVr (H1 ++ (hp'.drop sel.length).map (Ow.ren (eOut sel σ.hp.length))).length ρ'' s' (av.ren (eOut sel σ.hp.length)) v:=by
 obtain ⟨hl1,hl2⟩:=hsel.get
 obtain ⟨hl3,hl4,hl5⟩:=hset.get
 have hlen:(H1 ++ (hp'.drop sel.length).map (Ow.ren (eOut sel σ.hp.length))).length = σ.hp.length+(hp'.length - sel.length):=by simp [hl3]
 have hsl:∀ k,k<sel.length→sel.getD k 0<σ.hp.length:=fun k hk=>by
  have hk':k<hpS.length:=by omega
  exact live_lt (hl2 k _ (List.getElem?_eq_getElem hk')).1
 have hmem:∀ k,k<sel.length→sel.getD k 0∈sel:=fun k hk=>by
  rw [List.getD_eq_getElem?_getD,List.getElem?_eq_getElem hk]
  exact List.getElem_mem hk
 have hinj:∀ j k,j<sel.length→k<sel.length→sel.getD j 0 = sel.getD k 0→j = k:=fun j k hj hk he=>by
  rw [List.getD_eq_getElem?_getD,List.getElem?_eq_getElem hj,List.getD_eq_getElem?_getD,List.getElem?_eq_getElem hk] at he
  exact nodup_inj hnd hj hk he
 have hpos:∀ i,∃ k,(∃ k',k'<sel.length∧sel.getD k' 0 = i)→k<sel.length∧sel.getD k 0 = i:=fun i=>by
  by_cases hx:∃ k',k'<sel.length∧sel.getD k' 0 = i
  ·obtain ⟨k,hk⟩:=hx
   exact ⟨k,fun _=>hk⟩
  ·exact ⟨0,fun h=>absurd h hx⟩
 obtain ⟨pos,hpos⟩:∃ pos:Nat→Nat,∀ i,(∃ k',k'<sel.length∧sel.getD k' 0 = i)→pos i<sel.length∧sel.getD (pos i) 0 = i:=⟨fun i=>(hpos i).choose,fun i=>(hpos i).choose_spec⟩
 let ρ2:Nat→Value:=fun i=>if i<σ.hp.length then (if i∈sel then ρ' (pos i) else ρ i) else ρ' (i - σ.hp.length+sel.length)
 have hmem':∀ i,i∈sel→∃ k',k'<sel.length∧sel.getD k' 0 = i:=fun i hi=>by
  obtain ⟨k,hk⟩:=List.getElem?_of_mem hi
  have:=(List.getElem?_eq_some_iff.1 hk).1
  exact ⟨k,this,by rw [List.getD_eq_getElem?_getD,hk];rfl⟩
 have hρ2:∀ i,i<hp'.length→ρ2 (eOut sel σ.hp.length i) = ρ' i:=fun i hi=>by
  rcases Nat.lt_or_ge i sel.length with h1 | h1
  ·have h3:=hpos _ ⟨i,h1,rfl⟩
   rw [eOut_lt h1]
   show (if sel.getD i 0<σ.hp.length then (if sel.getD i 0∈sel then ρ' (pos (sel.getD i 0)) else _) else _) = _
   rw [if_pos (hsl i h1),if_pos (hmem i h1),hinj _ _ h3.1 h1 h3.2]
  ·rw [eOut_ge h1]
   show (if _ then _ else ρ' (σ.hp.length+(i - sel.length) - σ.hp.length+sel.length)) = _
   rw [if_neg (by omega)]
   congr 1
   omega
 have hρ3:∀ i,i<σ.hp.length→i ∉ lost.map (eOut sel σ.hp.length)→ρ2 i = ρ i:=fun i hi hnl=>by
  show (if i<σ.hp.length then (if i∈sel then ρ' (pos i) else ρ i) else _) = _
  rw [if_pos hi]
  by_cases hx:i∈sel
  ·rw [if_pos hx]
   obtain ⟨h1,h2⟩:=hpos i (hmem' i hx)
   have h3:pos i ∉ lost:=fun hm=>hnl (List.mem_map.2 ⟨pos i,hm,by rw [eOut_lt h1,h2]⟩)
   rw [haft.kp (pos i) (by omega) h3,eOut_lt h1,h2]
  ·rw [if_neg hx]
 have hlost:∀ i,i ∉ sel→i ∉ lost.map (eOut sel σ.hp.length):=fun i hi hm=>by
  obtain ⟨k,h1,h2⟩:=List.mem_map.1 hm
  have h3:=hll k h1
  rw [eOut_lt h3] at h2
  exact hi (by rw [← h2];exact hmem k h3)
 have hel:∀ i,i<hp'.length→eOut sel σ.hp.length i<σ.hp.length+(hp'.length - sel.length):=fun i hi=>by
  rcases Nat.lt_or_ge i sel.length with h1 | h1
  ·rw [eOut_lt h1]
   have:=hsl i h1
   omega
  ·rw [eOut_ge h1]
   omega
 have hei:∀ i j,i<hp'.length→j<hp'.length→eOut sel σ.hp.length i = eOut sel σ.hp.length j→i = j:=fun i j hi hj he=>by
  rcases Nat.lt_or_ge i sel.length with h1 | h1 <;> rcases Nat.lt_or_ge j sel.length with h2 | h2
  ·rw [eOut_lt h1,eOut_lt h2] at he
   exact hinj i j h1 h2 he
  ·rw [eOut_lt h1,eOut_ge h2] at he
   have:=hsl i h1
   omega
  ·rw [eOut_ge h1,eOut_lt h2] at he
   have:=hsl j h2
   omega
  ·rw [eOut_ge h1,eOut_ge h2] at he
   omega
 have hget:∀ i x,(H1 ++ (hp'.drop sel.length).map (Ow.ren (eOut sel σ.hp.length)))[i]? = some x→(∃ k o,hp'[k]? = some o∧i = eOut sel σ.hp.length k∧x = o.ren (eOut sel σ.hp.length))∨(i<σ.hp.length∧i ∉ sel∧σ.hp[i]? = some x):=fun i x hx=>by
  rw [List.getElem?_append] at hx
  split at hx
  ·rename_i hlt
   rcases hl5 i x hx with ⟨k,o,h1,h2,h3,h4⟩ | ⟨h1,h2⟩
   ·exact .inl ⟨k,o,h3,by rw [eOut_lt h1];exact h2.symm,h4⟩
   ·exact .inr ⟨by omega,h1,h2⟩
  ·rename_i hge
   rw [List.getElem?_map,List.getElem?_drop] at hx
   cases hk:hp'[sel.length+(i - H1.length)]? with
   | none=>rw [hk] at hx;cases hx
   | some o =>
    rw [hk] at hx
    exact .inl ⟨_,o,hk,by rw [eOut_ge (by omega)];omega,(Option.some.inj hx).symm⟩
 have hmine:∀ b,mineOf s (fun k=>ρ (eOut sel σ.hp.length k)) hpS b→∃ k o,k<sel.length∧hpS[k]? = some o∧σ.hp[sel.getD k 0]? = some (o.ren (eOut sel σ.hp.length))∧OwB s (ρ (sel.getD k 0)) (o.ren (eOut sel σ.hp.length)) b:=fun b ⟨k,o,h1,h2⟩=>by
  have hk:k<sel.length:=by have:=live_lt h1;omega
  replace h2:OwB s (ρ (eOut sel σ.hp.length k)) o b:=h2
  rw [eOut_lt hk] at h2
  exact ⟨k,o,hk,h1,(hl2 k o h1).1,OwB_ren.2 h2⟩
 have hfar:∀ i x,i ∉ sel→σ.hp[i]? = some x→∀ b,OwB s (ρ i) x b→¬ mineOf s (fun k=>ρ (eOut sel σ.hp.length k)) hpS b:=fun i x hi hx b hb hm=>by
  obtain ⟨k,o,h1,h2,h3,h4⟩:=hmine b hm
  exact h.sep i _ x _ (fun e=>hi (by rw [e];exact hmem k h1)) hx h3 b hb h4
 have hsame:∀ i x,i ∉ sel→σ.hp[i]? = some x→∀ b,OwB s (ρ i) x b→s'.w.heap[b]? = s.w.heap[b]? ∧ ∀ k,s'.S b k↔s.S b k:=fun i x hi hx b hb=>by
  have h1:=hfar i x hi hx b hb
  have h2:=(h.hp i x hx).blk_lt0 hb
  exact ⟨haft.le.block b h2 h1,fun k=>⟨haft.le.old b k h2 h1,haft.le.chg.up b k⟩⟩
 have hback:∀ i x,i<σ.hp.length→i ∉ sel→σ.hp[i]? = some x→∀ b,OwB s' (ρ2 i) x b→OwB s (ρ i) x b:=fun i x hlt hi hx b hb=>OwB.keep (h.hp i x hx) haft.le.chg (hsame i x hi hx) (by rw [← hρ3 i hlt (hlost i hi)];exact hb)
 have hown:∀ k o b,hp'[k]? = some o→OwB s' (ρ2 (eOut sel σ.hp.length k)) (o.ren (eOut sel σ.hp.length)) b→OwB s' (ρ' k) o b:=fun k o b hk hb=>by
  rw [hρ2 k (live_lt hk)] at hb
  exact OwB_ren.1 hb
 have hmx:∀ b,mineOf s (fun k=>ρ (eOut sel σ.hp.length k)) hpS b→s0.mine b∨s0.g.w.heap.size≤b:=fun b hm=>by
  obtain ⟨k,o,h1,h2,h3,h4⟩:=hmine b hm
  exact h.own _ _ b h3 h4
 refine ⟨ρ2,⟨?_,haft.ok,fun t av ht=>?_,h.sz,h.df,fun i x hx=>?_,fun i j x y hij hx hy b hbx hby=>?_,fun i x b hx hb=>?_⟩,fun av v hv=>?_⟩
 ·refine ⟨haft.le.os.trans h.le.os,haft.le.tape.trans h.le.tape,haft.le.output.trans h.le.output,fun k hk hm=>?_,h.le.chg.trans haft.le.chg,fun b k hb hm hs=>?_,fun b hb=>(haft.le.tag b (Nat.lt_of_lt_of_le hb h.le.size)).trans (h.le.tag b hb),fun _=>haft.ok⟩
  ·have hn : ¬ mineOf s (fun k => ρ (eOut sel σ.hp.length k)) hpS k := fun hx => (hmx k hx).elim hm fun h' => absurd hk (by omega)
   exact (haft.le.block k (Nat.lt_of_lt_of_le hk h.le.size) hn).trans (h.le.block k hk hm)
  ·have hn : ¬ mineOf s (fun k => ρ (eOut sel σ.hp.length k)) hpS b := fun hx => (hmx b hx).elim hm fun h' => absurd hb (by omega)
   exact h.le.old b k hb hm (haft.le.old b k (Nat.lt_of_lt_of_le hb h.le.size) hn hs)
 ·show AVr (H1 ++ _).length ρ2 s' av _
  rw [hlen]
  exact ((h.fr t av ht).chg haft.le.chg).kept (by omega) (hav.1 _ (look_mem ht)) hρ3
 ·show OwR 0 (H1 ++ _).length ρ2 s' i x
  rw [hlen]
  rcases hget i x hx with ⟨k,o,h1,rfl,rfl⟩ | ⟨h1,h2,h3⟩
  ·exact (haft.mem k o h1).re (live_lt h1) hel hρ2
  ·exact ((h.hp i x h3).keep haft.le.chg (hsame i x h2 h3)).kept (by omega) (hav.2 i x h2 h3) h1 (hlost i h2) hρ3
 ·rcases hget i x hx with ⟨k,o,h1,rfl,rfl⟩ | ⟨h1,h2,h3⟩ <;> rcases hget j y hy with ⟨k',o',h4,rfl,rfl⟩ | ⟨h4,h5,h6⟩
  ·exact haft.sep k k' o o' (fun e=>hij (by rw [e])) h1 h4 b (hown k o b h1 hbx) (hown k' o' b h4 hby)
  ·have hb1:=hback j y h4 h5 h6 b hby
   rcases haft.own k o b h1 (hown k o b h1 hbx) with h7 | h7
   ·exact hfar j y h5 h6 b hb1 h7
   ·have:=(h.hp j y h6).blk_lt0 hb1
    omega
  ·have hb1:=hback i x h1 h2 h3 b hbx
   rcases haft.own k' o' b h4 (hown k' o' b h4 hby) with h7 | h7
   ·exact hfar i x h2 h3 b hb1 h7
   ·have:=(h.hp i x h3).blk_lt0 hb1
    omega
  ·exact h.sep i j x y hij h3 h6 b (hback i x h1 h2 h3 b hbx) (hback j y h4 h5 h6 b hby)
 ·rcases hget i x hx with ⟨k,o,h1,rfl,rfl⟩ | ⟨h1,h2,h3⟩
  ·rcases haft.own k o b h1 (hown k o b h1 hb) with h7 | h7
   ·exact hmx b h7
   ·exact .inr (Nat.le_trans h.le.size h7)
  ·exact h.own i x b h3 (hback i x h1 h2 h3 b hb)
 ·rw [hlen]
  exact hv.re hel hρ2
def ArgC (hp : List Ow) (e:Nat→Nat) (m:Nat) (y a:AV):Prop:=(∃ d d',a = .d d∧asD hp y = some d'∧D.le d' d)∨(y = a.ren e∧a.below m = true)
def ArgsC (hp : List Ow) (e:Nat→Nat) (m:Nat) (arg:Operand→AV):List Operand→List AV→Prop
 | [],[]=>True
 | x :: l,a :: us=>ArgC hp e m (arg x) a∧ArgsC hp e m arg l us
 | _,_=>False
theorem ArgsC.get {hp : List Ow} {e:Nat→Nat} {m:Nat} {arg:Operand→AV}:∀ {l:List Operand} {us:List AV},ArgsC hp e m arg l us→l.length = us.length∧∀ (k:Nat) a,us[k]? = some a→∃ x,l[k]? = some x∧ArgC hp e m (arg x) a
 | [],[],_=>⟨rfl,fun k o h=>by cases h⟩
 | [],_ :: _,h=>h.elim
 | _ :: _,[],h=>h.elim
 | x :: l,a :: us,⟨h1,h2⟩=>by
  obtain ⟨h4,h5⟩:=ArgsC.get h2
  refine ⟨by simp [h4],fun k y hy=>?_⟩
  cases k with
  | zero=>cases hy;exact ⟨x,rfl,h1⟩
  | succ k=>simpa using h5 k y (by simpa using hy)
theorem ArgsC.nil {hp : List Ow} {e:Nat→Nat} {m:Nat} {arg:Operand→AV}:ArgsC hp e m arg [] []:=trivial
theorem ArgsC.d {hp : List Ow} {e:Nat→Nat} {m:Nat} {arg:Operand→AV} {x:Operand} {l:List Operand} {us:List AV} {d d':D} (h:asD hp (arg x) = some d') (hl:D.le d' d) (hr:ArgsC hp e m arg l us):ArgsC hp e m arg (x :: l) (.d d :: us):=⟨.inl ⟨d,d',rfl,h,hl⟩,hr⟩
theorem ArgsC.av {hp : List Ow} {e:Nat→Nat} {m:Nat} {arg:Operand→AV} {x:Operand} {l:List Operand} {us:List AV} {a:AV} (h:arg x = a.ren e) (hb:a.below m = true) (hr:ArgsC hp e m arg l us):ArgsC hp e m arg (x :: l) (a :: us):=⟨.inr ⟨h,hb⟩,hr⟩
theorem SelR.nil {e : Nat→Nat} {H:List Ow} {m:Nat}:SelR e H m [] []:=trivial
theorem SelR.var {e : Nat→Nat} {H:List Ow} {m j:Nat} {js:List Nat} {os:List Ow} {T:TypeId} {ds:List D} (h:H[j]? = some (.var T (ds.map .d))) (hr:SelR e H m js os):SelR e H m (j :: js) (.var T (ds.map .d) :: os) :=
 ⟨by rw [h];simp only [Ow.ren,List.map_map];congr,fun av hav=>by obtain ⟨d,_,rfl⟩:=List.mem_map.1 hav;rfl,hr⟩
theorem SelR.obj {e : Nat→Nat} {H:List Ow} {m j:Nat} {js:List Nat} {os:List Ow} {O:OD} (h:H[j]? = some (.obj O)) (hr:SelR e H m js os):SelR e H m (j :: js) (.obj O :: os):=⟨h,trivial,hr⟩
theorem SelR.row {e : Nat→Nat} {H:List Ow} {m j T sz:Nat} {rows:List (List D)} {js:List Nat} {os:List Ow} (h:H[j]? = some (.row T sz rows)) (hr:SelR e H m js os):SelR e H m (j :: js) (.row T sz rows :: os):=⟨h,trivial,hr⟩
theorem SelR.varA {e : Nat→Nat} {H:List Ow} {m j:Nat} {js:List Nat} {os:List Ow} {T:TypeId} {cells cells':List AV} (h:H[j]? = some (.var T cells')) (h2:cells' = cells.map (AV.ren e)) (hb:cells.all (AV.below m) = true) (hr:SelR e H m js os):SelR e H m (j :: js) (.var T cells :: os):=⟨by rw [h,h2];rfl,List.all_eq_true.1 hb,hr⟩
def OwRen (e : Nat→Nat) (o o':Ow):Prop:=o' = o.ren e
theorem OwRen.dead {e : Nat→Nat}:OwRen e .dead .dead:=rfl
theorem OwRen.varD {e : Nat→Nat} {T:TypeId} {ds:List D}:OwRen e (.var T (ds.map .d)) (.var T (ds.map .d)):=by simp only [OwRen,Ow.ren,List.map_map];congr
theorem OwRen.obj {e : Nat→Nat} {O:OD}:OwRen e (.obj O) (.obj O):=rfl
theorem OwRen.row {e : Nat→Nat} {T sz:Nat} {rows:List (List D)}:OwRen e (.row T sz rows) (.row T sz rows):=rfl
def renO (e : Nat→Nat):List AV→Option (List AV)
 | []=>some []
 | .d x :: l=>match renO e l with | some r=>some (.d x :: r) | none=>none
 | .ptr i off :: l=>match renO e l with | some r=>some (.ptr (e i) off :: r) | none=>none
 | .own i :: l=>match renO e l with | some r=>some (.own (e i) :: r) | none=>none
 | .fn f caps :: l=>match renO e l with | some r=>some (.fn f (caps.map e) :: r) | none=>none
theorem renO_eq {e : Nat→Nat}:∀ {l r:List AV},renO e l = some r→r = l.map (AV.ren e)
 | [],r,h=>by cases h;rfl
 | av :: l,r,h=>by
  have key:∃ r',renO e l = some r'∧r = av.ren e :: r':=by
   cases av <;> (unfold renO at h;split at h <;> first | (cases h;done) | (rename_i r' h';cases h;exact ⟨r',h',rfl⟩))
  obtain ⟨r',h1,rfl⟩:=key
  rw [renO_eq h1]
  rfl
theorem OwRen.varA {e : Nat→Nat} {T:TypeId} {c c':List AV} (h:renO e c = some c'):OwRen e (.var T c) (.var T c'):=by rw [renO_eq h];rfl
theorem SetR.nil {e : Nat→Nat} {H os:List Ow}:SetR e H [] os H:=by cases os <;> rfl
theorem SetR.cons {e : Nat→Nat} {H H1 os H':List Ow} {o o':Ow} {j:Nat} {js:List Nat} (h:OwRen e o o') (hs:setO H j o' = some H1) (hr:SetR e H1 js os H'):SetR e H (j :: js) (o :: os) H':=by
 rw [setO_eq hs,h] at hr
 exact hr
def AppR (e : Nat→Nat) (H os H':List Ow):Prop:=H' = H ++ os.map (Ow.ren e)
theorem AppR.nil {e : Nat→Nat} {H:List Ow}:AppR e H [] H:=by simp [AppR]
theorem AppR.cons {e : Nat→Nat} {H H1 os H':List Ow} {o o':Ow} (h:OwRen e o o') (hs:snocO H o' = some H1) (hr:AppR e H1 os H'):AppR e H (o :: os) H':=by
 rw [AppR,hr,snocO_eq hs,h]
 simp
def dropL : Nat→List Ow→List Ow
 | 0,l=>l
 | n+1,_ :: l=>dropL n l
 | _+1,[]=>[]
theorem dropL_eq : ∀ (n:Nat) (l:List Ow),dropL n l = l.drop n
 | 0,l=>rfl
 | n+1,_ :: l=>dropL_eq n l
 | _+1,[]=>rfl
def AVRen (e : Nat→Nat) (a a':AV):Prop:=a' = a.ren e
theorem AVRen.d {e : Nat→Nat} {x:D}:AVRen e (.d x) (.d x):=rfl
theorem AVRen.ptr {e : Nat→Nat} {i j off:Nat} (h:e i = j):AVRen e (.ptr i off) (.ptr j off):=by subst h;rfl
theorem AVRen.own {e : Nat→Nat} {i j:Nat} (h:e i = j):AVRen e (.own i) (.own j):=by subst h;rfl
theorem AVRen.fn {e : Nat→Nat} {f:FuncId} {c c':List Nat} (h:c.map e = c'):AVRen e (.fn f c) (.fn f c'):=by subst h;rfl
def CalleeC (e : Nat→Nat) (m:Nat) (y:AV) (fid:FuncId) (caps:List Nat):Prop:=(y = .d (ex (.func (.func fid) #[] #[]))∧caps = [])∨(y = .fn fid (caps.map e)∧caps.all (Nat.blt · m) = true)
def CapsOk (hpS : List Ow):List Nat→Prop
 | []=>True
 | i :: l=>(∃ T cells,hpS[i]? = some (.var T cells))∧CapsOk hpS l
theorem CapsOk.get {hpS : List Ow}:∀ {l:List Nat},CapsOk hpS l→∀ i∈l,∃ T cells,hpS[i]? = some (.var T cells)
 | [],_,i,hi=>by cases hi
 | j :: l,⟨h1,h2⟩,i,hi=>by
  rcases List.mem_cons.1 hi with rfl | hi
  ·exact h1
  ·exact CapsOk.get h2 i hi
def AvoidR (sel lost:List Nat):Nat→List Ow→Prop
 | _,[]=>True
 | i,o :: l=>(i∈sel∨o.avoid lost)∧AvoidR sel lost (i+1) l
theorem AvoidR.get {sel lost:List Nat}:∀ {l:List Ow} {i:Nat},AvoidR sel lost i l→∀ k o,i+k ∉ sel→l[k]? = some o→o.avoid lost
 | [],_,_,k,o,_,h=>by cases h
 | x :: l,i,⟨h1,h2⟩,0,o,hn,h=>by
  cases h
  exact h1.resolve_left hn
 | x :: l,i,⟨h1,h2⟩,k+1,o,hn,h=>AvoidR.get h2 k o (by rwa [show i+1+k = i+(k+1) by omega]) (by simpa using h)
section
variable {sel lost : List Nat} {i:Nat} {l:List Ow}
theorem AvoidR.nil : AvoidR sel lost i []:=trivial
theorem AvoidR.give {o : Ow} (h:sel.contains i = true) (hr:AvoidR sel lost (i+1) l):AvoidR sel lost i (o :: l):=⟨.inl (List.contains_iff_mem.1 h),hr⟩
theorem AvoidR.dead (hr : AvoidR sel lost (i+1) l):AvoidR sel lost i (.dead :: l):=⟨.inr trivial,hr⟩
theorem AvoidR.row {T sz:Nat} {r:List (List D)} (hr:AvoidR sel lost (i+1) l):AvoidR sel lost i (.row T sz r :: l):=⟨.inr trivial,hr⟩
theorem AvoidR.obj {O : OD} (hr:AvoidR sel lost (i+1) l):AvoidR sel lost i (.obj O :: l):=⟨.inr trivial,hr⟩
theorem AvoidR.varD {T : TypeId} {ds:List D} (hr:AvoidR sel lost (i+1) l):AvoidR sel lost i (.var T (ds.map .d) :: l):=⟨.inr fun av hav=>by obtain ⟨d,_,rfl⟩:=List.mem_map.1 hav;rfl,hr⟩
theorem AvoidR.varA {T : TypeId} {c:List AV} (h:c.all (AV.avoid lost) = true) (hr:AvoidR sel lost (i+1) l):AvoidR sel lost i (.var T c :: l):=⟨.inr (List.all_eq_true.1 h),hr⟩
theorem AvoidR.pin {c : List (Value × AV)} (h:c.all (fun p=>p.2.avoid lost) = true) (hr:AvoidR sel lost (i+1) l):AvoidR sel lost i (.pin c :: l):=⟨.inr (List.all_eq_true.1 h),hr⟩
end
def LostOk (sel lost:List Nat) (m:Nat) (fr:List (Nat × AV)) (hp:List Ow):Prop:=lost = []∨(lost.all (Nat.blt · sel.length) = true∧fr.all (fun p=>p.2.avoid (lost.map (eOut sel m))) = true∧AvoidR sel (lost.map (eOut sel m)) 0 hp)
theorem AV.avoid_nil (av : AV):av.avoid [] = true:=by
 cases av with
 | fn f caps=>exact List.all_eq_true.2 fun i _=>rfl
 | _=>rfl
theorem Ow.avoid_nil (o : Ow):o.avoid []:=by
 cases o with
 | var T c=>exact fun av _=>av.avoid_nil
 | pin l=>exact fun p _=>p.2.avoid_nil
 | _=>trivial
theorem LostOk.get {sel lost:List Nat} {m:Nat} {fr:List (Nat × AV)} {hp:List Ow} (h:LostOk sel lost m fr hp):((∀ p∈fr,p.2.avoid (lost.map (eOut sel m)) = true)∧∀ i o,i ∉ sel→hp[i]? = some o→o.avoid (lost.map (eOut sel m)))∧∀ k∈lost,k<sel.length:=by
 rcases h with rfl | ⟨h1,h2,h3⟩
 ·exact ⟨⟨fun p _=>p.2.avoid_nil,fun i o _ _=>o.avoid_nil⟩,fun k hk=>by cases hk⟩
 ·exact ⟨⟨List.all_eq_true.1 h2,fun i o hi ho=>h3.get i o (by rwa [Nat.zero_add]) ho⟩,fun k hk=>by simpa [Nat.blt_eq] using List.all_eq_true.1 h1 k hk⟩
section
variable {P : Program} {s0:An} {n:Nat} {ops:Array Oper} {Q:Exit→AS→Prop} {rest:List Oper} {fr:List (Nat × AV)} {hp:List Ow}
theorem con_wp {o : Oper} {f:Operand} {args:List Operand} {tys:Array TypeId} {fid:FuncId} {caps:List Nat} {us:List AV} {hpS:List Ow} {lost:List Nat} {QC:AV→List Ow→Prop} (hop:o.op = .call { callee:=.value f,args:=args.toArray,argTypes:=tys }) (sel:List Nat) {m:Nat} (hm:lenO hp = some m) (hf:CalleeC (eOut sel m) hpS.length (AS.arg ⟨fr,hp⟩ f) fid caps)
  (hc:Con P fid (us ++ caps.map (.ptr · 0)) hpS lost QC) (hlo:LostOk sel lost m fr hp) (ha:ArgsC hp (eOut sel m) hpS.length (AS.arg ⟨fr,hp⟩) args us) (hnd:sel.Nodup) (hsel:SelR (eOut sel m) hp hpS.length sel hpS) (hcap:∀ i∈caps,∃ T cells,hpS[i]? = some (.var T cells)) (hd:dLt o.dst n = true)
  (next:∀ r hp',QC r hp'→∃ r' H1 H',AVRen (eOut sel m) r r'∧SetR (eOut sel m) hp sel hp' H1∧AppR (eOut sel m) H1 (dropL sel.length hp') H'∧AWl P s0 n ops Q rest (AS.put ⟨fr,H'⟩ o.dst r')) :
  ∀ (s:GS) (ρ:Nat→Value) (a:Act),StI s0 n ⟨fr,hp⟩ a s ρ→∀ K:Act→World→Prop,(∀ σ' a' w',AWl P s0 n ops Q rest σ'→St s0 n σ' a' w'→K a' w')→o.wp P a s.w K (lift s0 n Q):=by
 intro s ρ a hst K hK
 obtain rfl:=lenO_eq hm
 obtain ⟨hl1,hl2⟩:=hsel.get
 obtain ⟨ha1,ha2⟩:=ha.get
 have hρc:∀ i,i<hpS.length→(fun k=>ρ (eOut sel hp.length k)) i = ρ (eOut sel hp.length i):=fun _ _=>rfl
 have hpos:∀ k o',hpS[k]? = some o'→hp[eOut sel hp.length k]? = some (o'.ren (eOut sel hp.length)):=fun k o' hk=>by
  rw [eOut_lt (by have:=live_lt hk;omega)]
  exact (hl2 k o' hk).1
 have hhp:HpOk 0 (fun k=>ρ (eOut sel hp.length k)) s hpS:=fun k o' hk=>(hst.hp _ _ (hpos k o' hk)).un (hl2 k o' hk).2 (live_lt hk) hρc
 have hsep:Sep s (fun k=>ρ (eOut sel hp.length k)) hpS:=fun i j o1 o2 hij hi hj b hb hb'=>by
  refine hst.sep _ _ _ _ (fun e=>hij ?_) (hpos i o1 hi) (hpos j o2 hj) b (OwB_ren.2 hb) (OwB_ren.2 hb')
  have h1:=live_lt hi
  have h2:=live_lt hj
  rw [eOut_lt (by omega),eOut_lt (by omega),List.getD_eq_getElem?_getD,List.getElem?_eq_getElem (by omega),List.getD_eq_getElem?_getD,List.getElem?_eq_getElem (by omega)] at e
  exact nodup_inj hnd _ _ e
 have hargs:∀ (k:Nat) av,us[k]? = some av→AVr hpS.length (fun k=>ρ (eOut sel hp.length k)) s av ((args.map a.eval).getD k undef):=fun k av hk=>by
  obtain ⟨x,h1,h2⟩:=ha2 k av hk
  have h3:=hst.arg x
  have h4:(args.map a.eval).getD k undef = a.eval x:=by rw [List.getD_eq_getElem?_getD,List.getElem?_map,h1];rfl
  rw [h4]
  rcases h2 with ⟨d,d',rfl,h5,h6⟩ | ⟨h5,h6⟩
  ·exact h6 s _ (asD_rel hst.hp h3 h5)
  ·rw [h5] at h3
   exact h3.un h6 hρc
 have hcall:(execOp a.eval o).run P s.w = .ok (.enter fid (args.map a.eval ++ caps.map fun i=>ρ (eOut sel hp.length i)).toArray) s.w:=by
  have h3:=hst.arg f
  rcases hf with ⟨h4,rfl⟩ | ⟨h4,h5⟩
  ·rw [h4] at h3
   have e1:a.eval f = .func (.func fid) #[] #[]:=h3
   simp [execOp,hop,resolve,e1,Deferred.ofValue,invoke,hc.1]
  ·rw [h4] at h3
   have e1:a.eval f = .func (.func fid) #[] ((caps.map (eOut sel hp.length)).map ρ).toArray:=h3.2
   rw [List.map_map] at e1
   simp [execOp,hop,resolve,e1,Deferred.ofValue,invoke,hc.1]
 have hvs:∀ (k:Nat) av,(us ++ caps.map (AV.ptr · 0))[k]? = some av→AVr hpS.length (fun k=>ρ (eOut sel hp.length k)) s av ((args.map a.eval ++ caps.map fun i=>ρ (eOut sel hp.length i)).getD k undef):=fun k av hk=>by
  rw [List.getElem?_append] at hk
  rw [List.getD_eq_getElem?_getD,List.getElem?_append]
  split at hk
  ·rename_i hlt
   rw [if_pos (by simp;omega),← List.getD_eq_getElem?_getD]
   exact hargs k av hk
  ·rename_i hge
   rw [if_neg (by simp;omega),List.getElem?_map]
   rw [List.getElem?_map] at hk
   simp only [List.length_map,ha1]
   cases hi:caps[k - us.length]? with
   | none=>rw [hi] at hk;cases hk
   | some i =>
    rw [hi] at hk
    cases hk
    obtain ⟨T,cells,h1⟩:=hcap i (List.mem_of_getElem? hi)
    obtain ⟨b,cs,h2,_⟩:=hhp i _ h1
    exact ⟨live_lt h1,b,h2,h2⟩
 have h4:=hc.2 s (fun k=>ρ (eOut sel hp.length k)) (args.map a.eval ++ caps.map fun i=>ρ (eOut sel hp.length i)) hst.ok hhp hsep (by simp [ha1]) hvs
 have hns:notSelect o.op = true:=by rw [hop];rfl
 refine RegG.opStep_wp (R:=fun v s'=>∃ (ρ':Nat→Value) (r:AV) (hp':List Ow),QC r hp'∧AVr hp'.length ρ' s' r v∧Aft s (fun k=>ρ (eOut sel hp.length k)) hpS lost s' ρ' hp') hns (fun _ _=>rfl) ?_ ?_
 ·unfold RegG.OpStep
  rw [hcall]
  exact h4.mono fun e w' ⟨v,he,s',ρ',r,hp',h5,h6,h7,h8⟩=>⟨v,he,s',h6,ρ',r,hp',h5,h7,h8⟩
 ·rintro v s' ⟨ρ',r,hp',h5,h6,h7⟩
  obtain ⟨r',H1,H',h8,h9,h10,h11⟩:=next r hp' h5
  replace h8:r' = r.ren (eOut sel hp.length):=h8
  rw [AppR,dropL_eq] at h10
  subst h8;subst h10
  obtain ⟨ρ'',h12,h13⟩:=StI.con (sel:=sel) (hpS:=hpS) hlo.get.1 hlo.get.2 hst hnd hsel h7 h9
  exact hK _ _ _ h11 ⟨s',ρ'',rfl,h12.put (GS.Le.refl s') (dLt_lt hd) (h13 r v h6)⟩
theorem AWs.con {ty : TypeId} {ps:String} {af:Array Edge} {t:Nat} {f:Operand} {args:List Operand} {tys:Array TypeId} {fid:FuncId} {all:List AV} {hpS:List Ow} {lost:List Nat} {QC:AV→List Ow→Prop} (sel:List Nat) (caps:List Nat) {m:Nat} (hc:Con P fid all hpS lost QC) (hlo:LostOk sel lost m fr hp) (hall:all = all.take args.length ++ caps.map (.ptr · 0)) (hm:lenO hp = some m) (hf:CalleeC (eOut sel m) hpS.length (AS.arg ⟨fr,hp⟩ f) fid caps)
  (ha:ArgsC hp (eOut sel m) hpS.length (AS.arg ⟨fr,hp⟩) args (all.take args.length)) (hnd:sel.Nodup) (hsel:SelR (eOut sel m) hp hpS.length sel hpS) (hcap:CapsOk hpS caps) (hd:Nat.blt t n = true)
  (next:∀ r hp',QC r hp'→∃ r' H1 H',AVRen (eOut sel m) r r'∧SetR (eOut sel m) hp sel hp' H1∧AppR (eOut sel m) H1 (dropL sel.length hp') H'∧AWl P s0 n ops Q rest ⟨(t,r') :: fr,H'⟩) :
  AWl P s0 n ops Q (⟨some t,.call { callee:=.value f,args:=args.toArray,argTypes:=tys },ty,ps,af,none⟩ :: rest) ⟨fr,hp⟩:=by
 rw [hall] at hc
 exact AWl.step rfl (con_wp rfl sel hm hf hc hlo ha hnd hsel hcap.get hd next)
end
end Go.Proofs.YteicdddphdomkaaGreat
namespace Go.Proofs.YteicdddphdomkaaGreat
open Go.RowKit
open Go.ChangeMaps (setBlock)
abbrev KD := (Nat→Int) × D
instance : Inhabited KD:=⟨(fun _=>0,anyD)⟩
def kAt (E : List KD) (i:Nat):KD:=E.getD i default
def keyK (p : KD):Value:=.agg (c8 p.1)
structure MapK (s : GS) (b:Nat) (E:List KD):Prop where
 run:∃ (es:Array MapEntry) (clock:Nat),s.w.heap[b]? = some (.map es clock)∧es.toList.map (·.key) = E.map keyK∧(∀ i e,es.toList[i]? = some e→(kAt E i).2.rel s e.val)∧(∀ x∈es.toList,x.born<clock)∧(es.toList.map (·.born)).Nodup∧E.Pairwise fun s t=>¬ Eqv s.1 t.1
def mapO (E : List KD):OD where
 rel s v:=∃ b,v = .map (some b)∧MapK s b E
 blk _ v b:=v = .map (some b)
 lt:=fun ⟨b,h1,⟨es,clock,h2,_⟩⟩ h3=>by
  rw [h1] at h3
  cases h3
  exact lt_of_heap h2
 keep:=fun ⟨b,h1,⟨es,clock,h2,h3,h4,h5⟩⟩ hc hb=>⟨⟨b,h1,⟨es,clock,(hb b h1).1.trans h2,h3,fun i e hi=>(kAt _ i).2.st (h4 i e hi) hc,h5⟩⟩,fun _ h=>h⟩
section
variable {P : Program} {hp:List Ow} {o:Oper} {arg:Operand→AV}
end
section
variable {hp : List Ow} {o:Oper} {arg:Operand→AV}
theorem Quiet.mkFn {P : Program} {f:FuncId} {caps:List Operand} {ids:List Nat} (hop:o.op = .makeFunc (.func f) #[] caps.toArray) (h:caps.map arg = ids.map (AV.ptr · 0)):Quiet P hp o arg (.fn f ids):=by
 refine ⟨fun base s ρ ev hok hbs hhp hv=>?_⟩
 have h1:∀ (l:List Operand) (js:List Nat),(∀ x∈l,x∈caps)→l.map arg = js.map (AV.ptr · 0)→(∀ i∈js,i<hp.length)∧l.map ev = js.map ρ:=by
  intro l
  induction l with
  | nil=>intro js _ h;cases js with
   | nil=>exact ⟨fun i hi=>by (cases hi),rfl⟩
   | cons=>simp at h
  | cons x l ih=>intro js hm h;cases js with
   | nil=>simp at h
   | cons j js =>
    simp only [List.map_cons,List.cons.injEq] at h
    obtain ⟨h2,h3⟩:=ih js (fun y hy=>hm y (List.mem_cons_of_mem _ hy)) h.2
    have h4:=hv x (by rw [hop];simp [Op.operands,hm x List.mem_cons_self])
    rw [h.1] at h4
    obtain ⟨h5,b,h6,h7⟩:=h4
    refine ⟨fun i hi=>?_,?_⟩
    ·rcases List.mem_cons.1 hi with rfl | hi
     ·exact h5
     ·exact h2 i hi
    ·rw [List.map_cons,List.map_cons,h3,h7,h6]
 obtain ⟨h2,h3⟩:=h1 caps ids (fun _ h=>h) h
 refine opG_val (v:=.func (.func f) #[] (ids.map ρ).toArray) (by simp [execOp,hop,Instr.makeFunc,h3]) ⟨GS.Le.refl s,h2,rfl⟩
end
section
variable {s0 : An} {n:Nat} {ops:Array Oper} {Q:Exit→AS→Prop} {rest:List Oper} {fr:List (Nat × AV)} {hp:List Ow} {ty:TypeId} {ps:String} {af:Array Edge} {gd:Option (Nat × Bool)} {dd:Option Tmp}
theorem map_new {P : Program} {o:Oper} {mt:TypeId} {t k:Nat} {hp':List Ow} (hop:o.op = .makeMap mt none) (hdst:o.dst = some t) (hd:Nat.blt t n = true) (hk:lenO hp = some k) (hs:snocO hp (.obj (mapO [])) = some hp')
  (h:AWl P s0 n ops Q rest ⟨(t,.own k) :: fr,hp'⟩):∀ (s:GS) (ρ:Nat→Value) (a:Act),StI s0 n ⟨fr,hp⟩ a s ρ→∀ K:Act→World→Prop,(∀ σ' a' w',AWl P s0 n ops Q rest σ'→St s0 n σ' a' w'→K a' w')→o.wp P a s.w K (lift s0 n Q):=by
 intro s ρ act hst K hK
 obtain rfl:=lenO_eq hk
 rw [snocO_eq hs] at h
 have hrun:(execOp act.eval o).run P s.w = .ok (.value (.map (some s.w.heap.size))) (s.w.alloc (.map #[] 0)):=by
  simp only [execOp,hop,Option.map_none,Instr.makeMap,Sem.run_bind,Sem.run_pure,Result.andThen_ok]
  rfl
 unfold Oper.wp
 rw [hrun]
 have hE:Ext s.w (s.w.alloc (.map #[] 0)):=(Ext.refl _).alloc _
 let s1:GS:=⟨s.S,s.tag,s.w.alloc (.map #[] 0)⟩
 have hok:s.Ok→s1.Ok:=fun h'=>⟨fun b k hb=>Nat.lt_of_lt_of_le (h'.lt b k hb) hE.size,fun b k ⟨cs,fz,hb⟩=>by
  replace hb:(s.w.alloc (.map #[] 0)).heap[b]? = _:=hb
  rcases Nat.lt_or_ge b s.w.heap.size with h1 | h1
  ·exact h'.safe b k ⟨cs,fz,(Below.heap_alloc s.w _ b h1).symm.trans hb⟩
  ·exfalso
   have h2:=lt_of_heap hb
   have h3:b = s.w.heap.size:=by have h4:(s.w.alloc (.map #[] 0)).heap.size = s.w.heap.size+1:=Array.size_push ..;omega
   rw [h3,heap_alloc_new] at hb
   cases hb⟩
 have hl:GS.Le s s1:=⟨hE,fun _ _ h=>h,fun _ _ _ h=>h,fun _ _=>rfl,hok⟩
 have hfin := hst.new hl (dst := some t) (fun d hd' => by cases hd'; simpa [Nat.blt_eq] using hd) (v := .map (some s.w.heap.size)) (u := .map (some s.w.heap.size)) (r := .own hp.length) (ow := .obj (mapO [])) ⟨Nat.lt_succ_self _, by simp⟩
  (by
   show (mapO []).rel s1 (if hp.length = hp.length then Value.map (some s.w.heap.size) else ρ hp.length)
   rw [if_pos rfl]
   exact ⟨s.w.heap.size,rfl,⟨#[],0,heap_alloc_new s.w _,rfl,fun i e h=>by simp at h,fun x h=>by simp at h,by simp,List.Pairwise.nil⟩⟩) (fun b hb=>by cases hb;exact Nat.le_refl _)
 exact hK _ _ _ h (by rw [hdst];exact ⟨s1,_,rfl,hfin⟩)
theorem AWs.mnew {P : Program} {mt:TypeId} {t k:Nat} {hp':List Ow} (hd:Nat.blt t n = true) (hk:lenO hp = some k) (hs:snocO hp (.obj (mapO [])) = some hp') (h:AWl P s0 n ops Q rest ⟨(t,.own k) :: fr,hp'⟩):AWl P s0 n ops Q (⟨some t,.makeMap mt none,ty,ps,af,none⟩ :: rest) ⟨fr,hp⟩:=AWl.step rfl (map_new rfl rfl hd hk hs h)
theorem Qs.mkFn {P : Program} {arg:Operand→AV} {f:FuncId} {caps:List Operand} (ids:List Nat) (h:caps.map arg = ids.map (AV.ptr · 0)):Quiet P hp ⟨dd,.makeFunc (.func f) #[] caps.toArray,ty,ps,af,gd⟩ arg (.fn f ids):=Quiet.mkFn rfl h
end
end Go.Proofs.YteicdddphdomkaaGreat
namespace Go.Proofs.YteicdddphdomkaaGreat
open Go.RowKit
def entD (E : List Tm):List KD:=E.map fun t=>(t.m,agD (ratC t.c))
theorem kAt_ent {E : List Tm} {i:Nat} (h:i<E.length):kAt (entD E) i = ((tAt E i).m,agD (ratC (tAt E i).c)):=by
 simp [kAt,entD,tAt,List.getD_eq_getElem?_getD,List.getElem?_eq_getElem h]
theorem entD_key (E : List Tm):(entD E).map keyK = E.map keyV:=by simp [entD,keyK,keyV]
theorem entD_pw {E : List Tm}:((entD E).Pairwise fun s t=>¬ Eqv s.1 t.1)↔E.Pairwise fun s t=>¬ Eqv s.m t.m:=by
 unfold entD
 rw [List.pairwise_map]
theorem MapK.at_ {s : GS} {b:Nat} {E:List Tm} (h:MapK s b (entD E)):MapAt s.w b E:=by
 obtain ⟨es,clock,h1,h2,h3,h4,h5,h6⟩:=h
 have hl:es.toList.length = E.length:=by have:=congrArg List.length h2;simpa [entD] using this
 refine ⟨es,clock,h1,h2.trans (entD_key E),fun i e hi=>?_,h4,h5,entD_pw.1 h6⟩
 have h7:=h3 i e hi
 rw [kAt_ent (by have:=(List.getElem?_eq_some_iff.1 hi).1;omega)] at h7
 obtain ⟨b,b',A,A',n,c,n',c',e1,e2⟩:=ratC_open h7
 exact ⟨b,b',A,A',n,c,n',c',e1,e2⟩
theorem MapK.of_at {s : GS} {b:Nat} {E:List Tm} (hok:s.Ok) (h:MapAt s.w b E):MapK s b (entD E):=by
 obtain ⟨es,clock,h1,h2,h3,h4,h5,h6⟩:=h
 have hl:es.toList.length = E.length:=by have:=congrArg List.length h2;simpa using this
 refine ⟨es,clock,h1,h2.trans (entD_key E).symm,fun i e hi=>?_,h4,h5,entD_pw.2 h6⟩
 rw [kAt_ent (by have:=(List.getElem?_eq_some_iff.1 hi).1;omega)]
 obtain ⟨b,b',A,A',n,c,n',c',e1,e2⟩:=h3 i e hi
 rw [e1]
 exact ratC_mk hok e2
theorem Con.of_map {P : Program} {f:FuncId} {args:List AV} {E:List Tm} {Q:AV→List Ow→Prop} (hcf:∀ args w,(callFunc f args).run P w = .ok (.enter f args) w)
  (h:∀ (s:GS) (ρ:Nat→Value) (vs:List Value) (B:Nat),s.Ok→ρ 0 = .map (some B)→MapAt s.w B E→vs.length = args.length→(∀ (k:Nat) av,args[k]? = some av→AVr 1 ρ s av (vs.getD k undef)) →
   Calls P f vs.toArray s.w fun e w'=>∃ v E' d,e = .returned v∧s.w.grownBy w' (some B)∧MapAt w' B E'∧Q (.d d) [.obj (mapO (entD E'))]∧∀ s':GS,s'.w = w'→s'.Ok→(∀ b k,s.w.heap.size≤b→b<w'.heap.size→s'.S b k)→d.rel s' v):Con P f args [.obj (mapO (entD E))] [] Q:=by
 refine ⟨hcf,fun s ρ vs hok hhp hsep hl hv=>?_⟩
 obtain ⟨B,hB,hM⟩:=hhp 0 _ rfl
 refine (h s ρ vs B hok hB hM.at_ hl hv).mono fun e w' ⟨v,E',d,he,hg,hM',hQ,hr⟩=>⟨v,he,s.grown w',ρ,.d d,[.obj (mapO (entD E'))],hQ,rfl,?_,?_⟩
 all_goals
  have hBl:B<s.w.heap.size:=hM.at_.lt
  have hno:∀ cs T fz,s.w.heap[B]? ≠ some (.cells cs T fz):=fun cs T fz e=>by
   obtain ⟨es,clock,h1,_⟩:=hM.at_
   rw [h1] at e
   cases e
  have hno':∀ cs T fz,w'.heap[B]? ≠ some (.cells cs T fz):=fun cs T fz e=>by
   obtain ⟨es,clock,h1,_⟩:=hM'
   rw [h1] at e
   cases e
  have hblk:∀ k,k<s.w.heap.size→k ≠ B→w'.heap[k]? = s.w.heap[k]? := fun k hk hne=>hg.block k hk fun e=>hne (Option.some.inj e)
  have hok':(s.grown w').Ok:=⟨fun b k hb=>hb.elim (fun h2=>Nat.lt_of_lt_of_le (hok.lt b k h2) hg.size) fun h2=>h2.2,fun b k ⟨cs,fz,hb⟩=>by
   have hb:w'.heap[b]? = _:=hb
   rcases Nat.lt_or_ge b s.w.heap.size with h1 | h1
   ·refine .inl (hok.safe b k ⟨cs,fz,?_⟩)
    exact (hblk b h1 fun e=>hno' _ _ _ (by rw [← e];exact hb)).symm.trans hb
   ·exact .inr ⟨h1,lt_of_heap hb⟩⟩
 ·exact hr _ rfl hok' fun b k h1 h2=>.inr ⟨h1,h2⟩
 ·have hchg : GS.Chg s (s.grown w') := ⟨hg.size, fun _ _ h => .inl h, fun b cs T fz hb => ⟨cs, fz, (hblk b (lt_of_heap hb) fun e => hno _ _ _ (by rw [← e]; exact hb)).trans hb, fun _ _ => rfl⟩⟩
  have hmine:mineOf s ρ [.obj (mapO (entD E))] B:=⟨0,_,rfl,hB⟩
  refine ⟨⟨hg.os,hg.tape,hg.output,fun k hk hm=>hblk k hk fun e=>hm (by rw [e];exact hmine),hchg,fun b k hb _ h=>h.elim id fun h2=>absurd hb (by omega),fun _ _=>rfl,fun _=>hok'⟩,hok',fun i o hi=>?_,fun i j o o' hij hi hj=>?_,fun i o b hi hb=>?_,fun _ _ _=>rfl,Nat.le_refl _⟩
  ·match i,hi with
   | 0,hi=>cases hi;exact ⟨B,hB,MapK.of_at hok' hM'⟩
  ·match i,j,hi,hj with
   | 0,0,_,_=>exact absurd rfl hij
  ·match i,hi with
   | 0,hi =>
    cases hi
    replace hb:ρ 0 = .map (some b):=hb
    rw [hB] at hb
    cases hb
    exact .inl hmine
theorem sorted_con (E : List Tm) (hl:E.length≤100000):Con Tryz.prog 77 [.own 0] [.obj (mapO (entD E))] [] (fun r hp'=>∃ S,(Canon S∧Sim S E∧∀ t∈S,t∈E)∧r = .d (polD S)∧hp' = [.obj (mapO (entD E))]):=by
 refine Con.of_map (callFunc_run Tryz.func77 (by kernel_rfl) (by kernel_rfl)) fun s ρ vs B hok hB hM hv ha=>?_
 have h1:=(ha 0 _ rfl).2
 rw [hB] at h1
 rw [vs1 hv,h1]
 refine (sorted_any B E s.w hM hl).mono fun e w' ⟨S,hS,A,c,he,hO,hE⟩=>⟨_,E,polD S,he,?_,hM.ext hE,⟨S,hS,rfl,rfl⟩,fun s' hw hok' hS'=>polD_own hO hw hok' hS'⟩
 exact ⟨hE.os,hE.tape,hE.output,hE.size,fun k hk _=>hE.block hk⟩
theorem collect_con (E : List Tm) (q:Rat) (a:Nat→Int) (N M:Nat) (hE:PSz E N) (hM:RSz q M) (hN:N+M+1≤4398046511104):Con Tryz.prog 75 [.own 0,.d (agD (ratC q)),.d (agD (monC a))] [.obj (mapO (entD E))] [] (fun r hp'=>∃ E',Coll E q a E'∧r = .d anyD∧hp' = [.obj (mapO (entD E'))]):=by
 refine Con.of_map (callFunc_run Tryz.func75 (by kernel_rfl) (by kernel_rfl)) fun s ρ vs B hok hB hMp hv ha=>?_
 have h1:=(ha 0 _ rfl).2
 rw [hB] at h1
 obtain ⟨b,b',A,A',n,c,n',c',e2,h2⟩:=ratC_open (ha 1 _ rfl)
 have e3:=monC_open (ha 2 _ rfl)
 rw [vs3 hv,h1,e2,e3]
 exact (collect_any b b' A A' n c n' c' q a B E N M s.w hMp h2 hE hM hN).mono fun e w' ⟨he,hg,E',hc,hM'⟩=>⟨_,E',anyD,he,hg,hM',⟨E',hc,rfl,rfl⟩,fun _ _ _ _=>trivial⟩
def DownR (id : Nat) (x:D):List Ow→List Ow→Prop
 | [],[]=>True
 | o :: l,o' :: l'=>o' = o.mapA (down id x)∧DownR id x l l'
 | _,_=>False
theorem DownR.eq {id : Nat} {x:D}:∀ {l l':List Ow},DownR id x l l'→l' = l.map (Ow.mapA (down id x))
 | [],[],_=>rfl
 | [],_ :: _,h=>h.elim
 | _ :: _,[],h=>h.elim
 | o :: l,o' :: l',⟨h1,h2⟩=>by rw [List.map_cons,← h1,DownR.eq h2]
section
variable {id : Nat} {x:D} {l l':List Ow}
theorem DownR.nil : DownR id x [] []:=trivial
theorem DownR.var {T : TypeId} {ds:List D} (h:DownR id x l l'):DownR id x (.var T (ds.map .d) :: l) (.var T (ds.map .d) :: l'):=⟨by simp only [Ow.mapA,plainA_down (plainA_mapD (id:=id) ds)],h⟩
theorem DownR.row {T sz:Nat} {r:List (List D)} (h:DownR id x l l'):DownR id x (.row T sz r :: l) (.row T sz r :: l'):=⟨rfl,h⟩
theorem DownR.obj {O : OD} (h:DownR id x l l'):DownR id x (.obj O :: l) (.obj O :: l'):=⟨rfl,h⟩
theorem DownR.dead (h : DownR id x l l'):DownR id x (.dead :: l) (.dead :: l'):=⟨rfl,h⟩
theorem DownR.pin {c : List (Value × AV)} (hc:plainA id (c.map (·.2)) = true) (h:DownR id x l l'):DownR id x (.pin c :: l) (.pin c :: l'):=⟨by simp only [Ow.mapA,plainA_pin hc],h⟩
def downL (id : Nat) (x:D):List AV→Option (List AV)
 | []=>some []
 | .own j :: l=>match downL id x l with
  | some r=>bif Nat.beq j id then some (.d x :: r) else some (.own j :: r)
  | none=>none
 | .d y :: l=>match downL id x l with
  | some r=>some (.d y :: r)
  | none=>none
 | .ptr i off :: l=>match downL id x l with
  | some r=>some (.ptr i off :: r)
  | none=>none
 | .fn f c :: l=>match downL id x l with
  | some r=>bif c.contains id then some (.d anyD :: r) else some (.fn f c :: r)
  | none=>none
theorem downL_eq : ∀ {c c':List AV},downL id x c = some c'→c' = c.map (down id x)
 | [],c',h=>by cases h;rfl
 | av :: c,c',h=>by
  have key:∃ r',downL id x c = some r'∧c' = down id x av :: r':=by
   cases av with
   | d y=>unfold downL at h;split at h <;> first | (cases h;done) | (rename_i r' h';cases h;exact ⟨r',h',rfl⟩)
   | ptr i o=>unfold downL at h;split at h <;> first | (cases h;done) | (rename_i r' h';cases h;exact ⟨r',h',rfl⟩)
   | own j =>
    unfold downL at h
    split at h
    ·rename_i r' h'
     refine ⟨r',h',?_⟩
     cases hb:Nat.beq j id with
     | true=>rw [hb] at h;cases h;simp only [down,hb];rfl
     | false=>rw [hb] at h;cases h;simp only [down,hb];rfl
    ·cases h
   | fn f cp =>
    unfold downL at h
    split at h
    ·rename_i r' h'
     refine ⟨r',h',?_⟩
     cases hb:cp.contains id with
     | true=>rw [hb] at h;cases h;simp only [down,hb];rfl
     | false=>rw [hb] at h;cases h;simp only [down,hb];rfl
    ·cases h
  obtain ⟨r',h1,rfl⟩:=key
  rw [downL_eq h1]
  rfl
theorem DownR.varA {T : TypeId} {c c':List AV} (hc:downL id x c = some c') (h:DownR id x l l'):DownR id x (.var T c :: l) (.var T c' :: l'):=⟨by rw [downL_eq hc];rfl,h⟩
end
section
variable {P : Program} {s0:An} {n:Nat} {ops:Array Oper} {Q:Exit→AS→Prop} {rest:List Oper} {fr:List (Nat × AV)} {hp:List Ow} {ty:TypeId} {ps:String} {af:Array Edge}
theorem AWs.appA {x y:Operand} {t T T2 sz bytes id m b e:Nat} {z z':Value} {d:TypeDesc} {rows r2:List (List D)} {fr':List (Nat × AV)} {hd' hp':List Ow} (hx:AS.arg ⟨fr,hp⟩ x = .own id) (hy:asD hp (AS.arg ⟨fr,hp⟩ y) = some (slD T2 sz r2)) (hh:hp[id]? = some (.row T sz rows)) (ht:Tab P t (.slice T) m b z') (hT:Tab P T d sz bytes z) (hzs:z.cells.size = sz) (hd:Nat.blt e n = true) (hbytes:(rows.length+r2.length)*bytes≤140737488355328) (h63:rows.length+r2.length≤4611686018427387904)
  (hf:downO id (slD T sz rows) fr = some fr') (hpl:DownR id (slD T sz rows) hp hd') (hs:setO hd' id (.row T sz (rows ++ r2)) = some hp') (h:AWl P s0 n ops Q rest ⟨(e,.own id) :: fr',hp'⟩) :
  AWl P s0 n ops Q (⟨some e,.call { callee:=.builtin .append,args:=#[x,y],argTypes:=#[t,t] },ty,ps,af,none⟩ :: rest) ⟨fr,hp⟩:=by
 refine AWl.append rfl rfl hx hy hh ht hT hzs (by simpa [dLt] using hd) hbytes h63 ?_
 rw [downO_eq hf,setO_eq hs,hpl.eq] at h
 exact h
theorem down_rel {m id:Nat} {ρ:Nat→Value} {s s':GS} {v':Value} {x:D} (hold:x.rel s (ρ id)) (hc:GS.Chg s s') (hnp:∀ a,ρ id ≠ .pointer a):∀ av v,AVr m ρ s av v→AVr m (fun i=>if i = id then v' else ρ i) s' (down id x av) v:=by
 intro av v hav
 cases av with
 | d x=>exact x.st hav hc
 | ptr i off =>
  obtain ⟨p1,bb,p2,p3⟩:=hav
  refine ⟨p1,bb,?_,p3⟩
  show (if i = id then v' else ρ i) = _
  by_cases e:i = id
  ·subst e;exact absurd p2 (hnp _)
  ·rw [if_neg e];exact p2
 | own j =>
  obtain ⟨p1,p2⟩:=hav
  show AVr m _ s' (bif Nat.beq j id then .d x else .own j) v
  cases hb:Nat.beq j id with
  | true =>
   have e:j = id:=Nat.eq_of_beq_eq_true hb
   subst e
   rw [p2]
   exact x.st hold hc
  | false =>
   have e:j ≠ id:=Nat.ne_of_beq_eq_false hb
   exact ⟨p1,p2.trans (if_neg e).symm⟩
 | fn f caps =>
  obtain ⟨p1,p2⟩:=hav
  show AVr m _ s' (bif caps.contains id then .d anyD else .fn f caps) v
  cases hb:caps.contains id with
  | true=>trivial
  | false =>
   have hn:id ∉ caps:=fun h=>by rw [List.contains_iff_mem.2 h] at hb;cases hb
   exact ⟨p1,by rw [p2,List.map_congr_left fun i hi=>(if_neg fun e=>hn (by rw [← e];exact hi):(if i = id then v' else ρ i) = ρ i)]⟩
theorem seat_wp {o : Oper} {t E:TypeId} {len nn b n' b' e:Nat} {z z':Value} {d:TypeDesc} {parts:List (Nat × Operand)} {r:List (Nat × List D)} {ds:List D} {T0 sz0:Nat} {old:List (List D)} {fr':List (Nat × AV)} {hd' hp':List Ow} (id:Nat) (hop:o.op = .buildSlice t len parts.toArray) (hdst:o.dst = some e) (ht:Tab P t (.slice E) nn b z) (he:Tab P E d n' b' z') (hlen:0<len) (hn:0<n') (hz:z'.cells.size = n') (h24:len*n'≤16777216) (h1:one1 z'.cells.toList = true) (hr:PartsA hp (AS.arg ⟨fr,hp⟩) parts r) (hf:fillD (fun i=>some (i*n',n')) (List.replicate (len*n') anyD) r = some ds) (hE32:E ≠ 137)
  (hd:Nat.blt e n = true) (hh:hp[id]? = some (.row T0 sz0 old)) (hfr:downO id (slD T0 sz0 old) fr = some fr') (hpl:DownR id (slD T0 sz0 old) hp hd') (hs:setO hd' id (.row E n' (chunks n' len ds)) = some hp') (h:AWl P s0 n ops Q rest ⟨(e,.own id) :: fr',hp'⟩) :
  ∀ (s:GS) (ρ:Nat→Value) (a:Act),StI s0 n ⟨fr,hp⟩ a s ρ→∀ K:Act→World→Prop,(∀ σ' a' w',AWl P s0 n ops Q rest σ'→St s0 n σ' a' w'→K a' w')→o.wp P a s.w K (lift s0 n Q):=by
 intro s ρ a hst K hK
 rw [downO_eq hfr,setO_eq hs,hpl.eq] at h
 have h2:=PartsA.rel (ev:=a.eval) hst.hp hr fun p _=>hst.arg p.2
 have hz0:CellsR s ((Array.range (len*n')).map (fun j=>z'.cells[j % z'.cells.size]!)) (List.replicate (len*n') anyD):=by
  refine ⟨by simp,fun k hk=>?_⟩
  simp at hk
  have hlt:k % z'.cells.size<z'.cells.size:=Nat.mod_lt _ (by omega)
  refine ⟨z'.cells[k % z'.cells.size]!, by simp [hk], List.all_eq_true.1 h1 _ (by
   have e:z'.cells[k % z'.cells.size]! = z'.cells[k % z'.cells.size]'hlt:=by simp [hlt]
   rw [e]
   simp),?_⟩
  have:dAt (List.replicate (len*n') anyD) k = anyD:=by simp [dAt,hk]
  rw [this]
  trivial
 obtain ⟨cs',h3,h4⟩:=fill_rel h2 hz0 hf
 have hn0:len*n' ≠ 0:=by
  have:=Nat.mul_pos hlen hn
  omega
 have h8:(parts.toArray.map fun p:Nat × Operand=>(p.1,a.eval p.2)).toList = parts.map fun p=>(p.1,a.eval p.2):=by simp
 have hrun:(execOp a.eval o).run P s.w = .ok (.value (.slice (some ⟨s.w.heap.size,0,none⟩) len len)) (s.w.alloc (.cells cs' E)):=by
  have hnr:∀ arr,(newRow E arr).run P s.w = .ok ⟨s.w.heap.size,0,none⟩ (s.w.alloc (.cells arr E)):=fun _=>rfl
  have h24':¬ (len*n' > 2 ^ 24):=by omega
  simp only [execOp,hop,Instr.buildSlice,Sem.run_bind,run_underlying ht.und,Result.andThen_ok,he.run_size,if_neg h24',if_neg hn0,he.run_zero,Sem.run_pure,h8,h3,hnr]
 have hl:ds.length = len*n':=by
  have h9:∀ (l:List (Nat × List D)) (ds0 ds1:List D),fillD (fun i=>some (i*n',n')) ds0 l = some ds1→ds1.length = ds0.length:=by
   intro l
   induction l with
   | nil=>intro ds0 ds1 h;cases h;rfl
   | cons p l ih =>
    intro ds0 ds1 h
    obtain ⟨i,es⟩:=p
    unfold fillD at h
    simp only at h
    cases hb:(Nat.beq es.length n' && Nat.ble (i*n'+n') ds0.length) with
    | false=>rw [hb] at h;cases h
    | true =>
     rw [hb] at h
     simp only [Bool.and_eq_true,Nat.ble_eq] at hb
     have e1:es.length = n':=Nat.eq_of_beq_eq_true hb.1
     rw [ih _ _ h,spl_length (by omega)]
  rw [h9 _ _ _ hf]
  simp
 have hE:Ext s.w (s.w.alloc (.cells cs' E)):=(Ext.refl _).alloc _
 have hnew:(s.w.alloc (.cells cs' E)).heap[s.w.heap.size]? = some (.cells cs' E (0,0)):=heap_alloc_new s.w _
 have hsz:(s.w.alloc (.cells cs' E)).heap.size = s.w.heap.size+1:=Array.size_push ..
 let s':GS:=⟨fun b k=>s.S b k∨(b = s.w.heap.size∧k<len*n'),s.tag,s.w.alloc (.cells cs' E)⟩
 have hS':∀ b k,b<s.w.heap.size→(s'.S b k↔s.S b k):=fun b k hb=>⟨fun h=>h.elim (fun h=>h) fun h=>absurd hb (by omega),.inl⟩
 have hok':s'.Ok:=⟨fun b k hb=>by
   show b<(s.w.alloc (.cells cs' E)).heap.size
   rcases hb with hb | ⟨hb,_⟩
   ·have:=hst.ok.lt _ _ hb;omega
   ·omega,fun b k ⟨cs,fz,hb⟩=>by
   have hb:(s.w.alloc (.cells cs' E)).heap[b]? = _:=hb
   have hbl:=lt_of_heap hb
   by_cases e:b = s.w.heap.size
   ·subst e
    rw [hnew] at hb
    cases hb
    exact absurd rfl hE32
   ·exact .inl (hst.ok.safe b k ⟨cs,fz,(hE.block (by omega)).symm.trans hb⟩)⟩
 have hle:GS.Le s s':=⟨hE,fun _ _ h=>.inl h,fun b k hb h=>(hS' b k hb).1 h,fun _ _=>rfl,fun _=>hok'⟩
 obtain ⟨xs,hown,g3,g4,g5,g6⟩:=hst.hp id _ hh
 have hid:id<hp.length:=live_lt hh
 have hold:(slD T0 sz0 old).rel s (ρ id):=asD_rel (av:=.own id) hst.hp ⟨hid,rfl⟩ (by simp [asD,hh])
 have hnp:∀ ad,ρ id ≠ .pointer ad:=fun ad e=>by
  rcases hown.2 with ⟨w1,_⟩ | ⟨g,cap,cur,w1,_⟩ <;> rw [w1] at e <;> cases e
 have hlm:len≤maxLen:=by
  have:=Nat.le_mul_of_pos_right len hn
  simp only [maxLen]
  omega
 have hcl:cs'.size = len*n':=by rw [h4.1,hl]
 have hst':=hst.upd (s':=s') (o':=.row E n' (chunks n' len ds)) (ρ':=fun i=>if i = id then .slice (some ⟨s.w.heap.size,0,none⟩) len len else ρ i) (f:=down id (slD T0 sz0 old)) (hst.le.trans hle) hok' hle.chg hh (fun b hb _=>⟨hE.block hb,fun k=>hS' b k hb⟩) (fun j hj=>if_neg hj)
  ⟨cs'.toList,by
   show s'.w.ownsRow 0 E n' (if id = id then Value.slice (some ⟨s.w.heap.size,0,none⟩) len len else ρ id) (chunks n' len ds).length cs'.toList
   rw [if_pos rfl,chunks_length]
   exact ⟨by simp [hcl],.inr ⟨s.w.heap.size,len,cs',rfl,Nat.zero_le _,hnew,Nat.le_refl _,hlm,hcl,by rw [List.take_of_length_le (by simp [hcl])]⟩⟩,hE32,hn,fun b hb k=>by
   replace hb:vblk (if id = id then Value.slice (some ⟨s.w.heap.size,0,none⟩) len len else ρ id) = some b:=hb
   rw [if_pos rfl] at hb
   cases hb
   rw [chunks_length]
   exact ⟨fun hk=>hk.elim (fun hk=>absurd (hst.ok.lt _ _ hk) (Nat.lt_irrefl _)) fun hk=>hk.2,fun hk=>.inr ⟨rfl,hk⟩⟩,fun k hk=>by
   rw [chunks_length] at hk
   have hkl:k*n'+n'≤len*n':=by
    have:(k+1)*n'≤len*n':=Nat.mul_le_mul_right n' hk
    rw [Nat.succ_mul] at this
    omega
   rw [chunks_get _ _ _ _ hk]
   refine ⟨by simp;omega,fun j hj=>?_⟩
   rw [dAt_take hj,dAt_drop]
   obtain ⟨u,h10,h11,h12⟩:=h4.2 (k*n'+j) (by omega)
   exact ⟨u,by simpa using h10,h11,(dAt ds _).st h12 hle.chg⟩⟩
  (fun b hb=>by
   replace hb:vblk (if id = id then Value.slice (some ⟨s.w.heap.size,0,none⟩) len len else ρ id) = some b:=hb
   rw [if_pos rfl] at hb
   cases hb
   exact .inr (Nat.le_refl _)) (down_rel hold hle.chg hnp)
 have hfin:=hst'.put (GS.Le.refl s') (dst:=o.dst) (fun d hd'=>by rw [hdst] at hd';cases hd';simpa [Nat.blt_eq] using hd) (v:=.slice (some ⟨s.w.heap.size,0,none⟩) len len) (r:=.own id) ⟨by simpa using hid,by simp⟩
 unfold Oper.wp
 rw [hrun]
 refine hK _ _ _ h ?_
 rw [hdst] at hfin ⊢
 exact ⟨s',_,rfl,hfin⟩
theorem AWs.seat {t E:TypeId} {len nn b n' b' e:Nat} {z z':Value} {d:TypeDesc} {parts:List (Nat × Operand)} {r:List (Nat × List D)} {ds:List D} {T0 sz0:Nat} {old:List (List D)} {fr':List (Nat × AV)} {hd' hp':List Ow} (id:Nat) (ht:Tab P t (.slice E) nn b z) (he:Tab P E d n' b' z') (hlen:0<len) (hn:0<n') (hz:z'.cells.size = n') (h24:len*n'≤16777216) (h1:one1 z'.cells.toList = true) (hr:PartsA hp (AS.arg ⟨fr,hp⟩) parts r) (hf:fillD (fun i=>some (i*n',n')) (List.replicate (len*n') anyD) r = some ds) (hE32:Nat.beq E 137 = false)
  (hd:Nat.blt e n = true) (hh:hp[id]? = some (.row T0 sz0 old)) (hfr:downO id (slD T0 sz0 old) fr = some fr') (hpl:DownR id (slD T0 sz0 old) hp hd') (hs:setO hd' id (.row E n' (chunks n' len ds)) = some hp') (h:AWl P s0 n ops Q rest ⟨(e,.own id) :: fr',hp'⟩) :
  AWl P s0 n ops Q (⟨some e,.buildSlice t len parts.toArray,ty,ps,af,none⟩ :: rest) ⟨fr,hp⟩:=AWl.step rfl (seat_wp id rfl rfl ht he hlen hn hz h24 h1 hr hf (Nat.ne_of_beq_eq_false hE32) hd hh hfr hpl hs h)
theorem AWs.seat1 {t E:TypeId} {nn b b' e:Nat} {z z':Value} {d:TypeDesc} {x:Operand} {y:D} {T0 sz0:Nat} {old:List (List D)} {fr':List (Nat × AV)} {hd' hp':List Ow} (id:Nat) (ht:Tab P t (.slice E) nn b z) (he:Tab P E d 1 b' z') (hz:z'.cells.size = 1) (h1:one1 z'.cells.toList = true) (hx:AS.arg ⟨fr,hp⟩ x = .d y) (h2:One hp (.d y)) (hE32:Nat.beq E 137 = false)
  (hd:Nat.blt e n = true) (hh:hp[id]? = some (.row T0 sz0 old)) (hfr:downO id (slD T0 sz0 old) fr = some fr') (hpl:DownR id (slD T0 sz0 old) hp hd') (hs:setO hd' id (.row E 1 [[y]]) = some hp') (h:AWl P s0 n ops Q rest ⟨(e,.own id) :: fr',hp'⟩) :
  AWl P s0 n ops Q (⟨some e,.buildSlice t 1 #[(0,x)],ty,ps,af,none⟩ :: rest) ⟨fr,hp⟩ :=
 AWs.seat (len:=1) (parts:=[(0,x)]) (r:=[(0,[y])]) (ds:=[y]) id ht he (by omega) (by omega) hz (by omega) h1 (PartsA.one (by rw [hx];rfl) (by rw [hx];exact h2) PartsA.nil) rfl hE32 hd hh hfr hpl hs h
def setA : List AV→Nat→AV→Option (List AV)
 | [],_,_=>none
 | _ :: l,0,x=>some (x :: l)
 | y :: l,k+1,x=>match setA l k x with
  | some r=>some (y :: r)
  | none=>none
theorem setA_eq : ∀ {l:List AV} {k:Nat} {x:AV} {r:List AV},setA l k x = some r→k<l.length∧r = l.set k x
 | [],_,_,_,h=>by cases h
 | _ :: l,0,x,r,h=>by cases h;exact ⟨by simp,rfl⟩
 | y :: l,k+1,x,r,h=>by
  unfold setA at h
  split at h
  ·rename_i r' h'
   cases h
   obtain ⟨h1,h2⟩:=setA_eq h'
   exact ⟨by simpa using h1,by rw [h2];rfl⟩
  ·cases h
theorem AWs.stA1 {T T0:TypeId} {d:TypeDesc} {b id off:Nat} {z:Value} {x y:Operand} {cells cells':List AV} {av:AV} {hp':List Ow} (hx:AS.arg ⟨fr,hp⟩ x = .ptr id off) (hy:AS.arg ⟨fr,hp⟩ y = av) (hh:hp[id]? = some (.var T0 cells)) (ht:Tab P T d 1 b z) (h1:One hp av) (hs0:setA cells off av = some cells') (hs:setO hp id (.var T0 cells') = some hp') (h:AWl P s0 n ops Q rest ⟨fr,hp'⟩) :
  AWl P s0 n ops Q (⟨none,.store T x y,ty,ps,af,none⟩ :: rest) ⟨fr,hp⟩:=by
 obtain ⟨h2,h3⟩:=setA_eq hs0
 refine AWl.store1 (o:=⟨none,.store T x y,ty,ps,af,none⟩) rfl rfl rfl hx hy hh ht h1 h2 ?_
 rw [setO_eq hs,h3] at h
 exact h
theorem AS.nilCell {T0 : TypeId} {cells cells':List AV} {hp1 hp':List Ow} {m:Nat} (id k T sz:Nat) (hh:hp[id]? = some (.var T0 cells)) (hc:cells[k]? = some (.d (ex (.slice none 0 0)))) (hT:T ≠ 137) (h0:0<sz) (hm:lenO hp = some m) (hs0:setA cells k (.own m) = some cells') (hs1:setO hp id (.var T0 cells') = some hp1) (hs:snocO hp1 (.row T sz []) = some hp'):AS.le ⟨fr,hp⟩ ⟨fr,hp'⟩:=by
 rw [snocO_eq hs,setO_eq hs1]
 obtain ⟨hk,hs0⟩:=setA_eq hs0
 obtain rfl:=lenO_eq hm
 subst hs0
 have hid:id<hp.length:=live_lt hh
 intro s0 n a w ⟨s,ρ,hw,hst⟩
 have hlen:(hp ++ [Ow.row T sz []]).length = hp.length+1:=by simp
 have hnew := hst.new (GS.Le.refl s) (dst := none) (fun d hd => by cases hd) (v := .slice none 0 0) (u := .slice none 0 0) (r := .own hp.length) (ow := .row T sz []) ⟨Nat.lt_succ_self _, by simp⟩
  ⟨[],⟨by simp,.inl ⟨by simp,rfl⟩⟩,hT,h0,fun b hb=>by simp [vblk] at hb,fun k hk=>by simp at hk⟩ fun b hb=>by cases hb
 have hget:∀ i o,(hp.set id (.var T0 (cells.set k (.own hp.length))) ++ [Ow.row T sz []])[i]? = some o→(i = id∧o = .var T0 (cells.set k (.own hp.length)))∨(hp ++ [Ow.row T sz []])[i]? = some o:=fun i o hi=>by
  by_cases e:i = id
  ·subst e
   rw [List.getElem?_append_left (by rw [List.length_set];exact hid),List.getElem?_set_self hid] at hi
   exact .inl ⟨rfl,(Option.some.inj hi).symm⟩
  ·rw [List.getElem?_append,List.length_set] at hi
   rw [List.getElem?_append]
   by_cases hlt:i<hp.length
   ·rw [if_pos hlt,List.getElem?_set_ne (fun h=>e h.symm)] at hi
    rw [if_pos hlt]
    exact .inr hi
   ·rw [if_neg hlt] at hi
    rw [if_neg hlt]
    exact .inr hi
 have hid':(hp ++ [Ow.row T sz []])[id]? = some (.var T0 cells):=by rw [List.getElem?_append_left hid];exact hh
 have hlen2:(hp.set id (.var T0 (cells.set k (.own hp.length))) ++ [Ow.row T sz []]).length = (hp ++ [Ow.row T sz []]).length:=by simp
 have hback:∀ i o b,(hp.set id (.var T0 (cells.set k (.own hp.length))) ++ [Ow.row T sz []])[i]? = some o→∀ v,OwB s v o b→∃ o',(hp ++ [Ow.row T sz []])[i]? = some o'∧OwB s v o' b:=fun i o b hi v hb=>by
  rcases hget i o hi with ⟨rfl,rfl⟩ | h1
  ·exact ⟨_,hid',hb⟩
  ·exact ⟨o,h1,hb⟩
 refine ⟨s,fun i=>if i = hp.length then .slice none 0 0 else ρ i,hw,hnew.le,hnew.ok,fun t av ht=>?_,hnew.sz,hnew.df,fun i o hi=>?_,fun i j o o' hij hi hj b hb hb'=>?_,fun i o b hi hb=>?_⟩
 ·rw [hlen2]
  exact hnew.fr t av ht
 ·rw [hlen2]
  rcases hget i o hi with ⟨rfl,rfl⟩ | h1
  ·obtain ⟨b,cs,q1,q2,q3,q4,q5,q6,q7⟩:=hnew.hp _ _ hid'
   refine ⟨b,cs,q1,q2,q3,by simpa using q4,q5,q6,fun j av hj=>?_⟩
   by_cases e:j = k
   ·subst e
    rw [List.getElem?_set_self hk] at hj
    cases hj
    obtain ⟨u,p1,p2,p3⟩:=q7 j _ hc
    refine ⟨u,p1,p2,by rw [hlen];exact Nat.lt_succ_self _,?_⟩
    have p3:u = .slice none 0 0:=p3
    rw [p3];simp
   ·rw [List.getElem?_set_ne (fun h=>e h.symm)] at hj
    exact q7 j av hj
  ·exact hnew.hp i o h1
 ·obtain ⟨x,h1,h2⟩:=hback i o b hi _ hb
  obtain ⟨y,h3,h4⟩:=hback j o' b hj _ hb'
  exact hnew.sep i j x y hij h1 h3 b h2 h4
 ·obtain ⟨x,h1,h2⟩:=hback i o b hi _ hb
  exact hnew.own i x b h1 h2
end
def oct (r : Nat→D):List D:=[r 0,r 1,r 2,r 3,r 4,r 5,r 6,r 7]
def upF {α : Type} (r:Nat→α) (k:Nat) (u:α):Nat→α:=fun j=>if j = k then u else r j
theorem CellAt.a8' {r : Nat→D} {k:Nat} (h:k<8):CellAt (oct r) k (r k):=by
 refine ⟨h,?_⟩
 match k,h with
 | 0,_ | 1,_ | 2,_ | 3,_ | 4,_ | 5,_ | 6,_ | 7,_=>rfl
theorem CellAt.a8 {r : Nat→D} {k:Nat} (h:k<8):CellAt (oct r) (0+k*1) (r k):=by rw [Nat.zero_add,Nat.mul_one];exact .a8' h
theorem SetAt.a8 {r : Nat→D} {k:Nat} {u:D} (h:k<8):SetAt (oct r) (0+k*1) [u] (oct (upF r k u)):=by
 rw [Nat.zero_add,Nat.mul_one]
 refine ⟨h,?_⟩
 match k,h with
 | 0,_ | 1,_ | 2,_ | 3,_ | 4,_ | 5,_ | 6,_ | 7,_=>rfl
theorem a8_congr {r r':Nat→D} (h:∀ k,k<8→r k = r' k):oct r = oct r':=by
 unfold oct
 rw [h 0 (by omega),h 1 (by omega),h 2 (by omega),h 3 (by omega),h 4 (by omega),h 5 (by omega),h 6 (by omega),h 7 (by omega)]
def pol8 (B : Nat→List Tm):List D:=oct fun i=>polD (B i)
theorem CellAt.p8 {B : Nat→List Tm} {k:Nat} (h:k<8):CellAt (pol8 B) (0+k*1) (polD (B k)):=CellAt.a8 h
theorem SetAt.p8 {B : Nat→List Tm} {k:Nat} {u:List Tm} (h:k<8):SetAt (pol8 B) (0+k*1) [polD u] (pol8 (upF B k u)):=by
 have h1:=SetAt.a8 (r:=fun i=>polD (B i)) (u:=polD u) h
 have e:oct (upF (fun i=>polD (B i)) k (polD u)) = pol8 (upF B k u):=a8_congr fun j _=>by
  simp only [upF];split <;> rfl
 rw [e] at h1
 exact h1
theorem pol8_congr {B B':Nat→List Tm} (h:∀ k,k<8→polD (B k) = polD (B' k)):pol8 B = pol8 B':=a8_congr h
def row8 (b : Nat→Nat→Int):List D:=monC (b 0) ++ (monC (b 1) ++ (monC (b 2) ++ (monC (b 3) ++ (monC (b 4) ++ (monC (b 5) ++ (monC (b 6) ++ monC (b 7)))))))
theorem CellAt.r8 {b : Nat→Nat→Int} {i k:Nat} (hi:i<8) (h:k<8):CellAt (row8 b) (0+i*8+k*1) (ex (.int .i64 (b i k))):=by
 rw [Nat.zero_add,Nat.mul_one]
 refine ⟨by show _<64;omega,?_⟩
 match i,hi with
 | 0,_ | 1,_ | 2,_ | 3,_ | 4,_ | 5,_ | 6,_ | 7,_ =>
  match k,h with
  | 0,_ | 1,_ | 2,_ | 3,_ | 4,_ | 5,_ | 6,_ | 7,_=>rfl
theorem SetAt.r8 {b : Nat→Nat→Int} {k:Nat} {a:Nat→Int} (h:k<8):SetAt (row8 b) (0+k*8) (monC a) (row8 (upF b k a)):=by
 rw [Nat.zero_add]
 refine ⟨by show _≤64;rw [monC_length];omega,?_⟩
 match k,h with
 | 0,_ | 1,_ | 2,_ | 3,_ | 4,_ | 5,_ | 6,_ | 7,_=>rfl
theorem row8_rows {b b':Nat→Nat→Int} (h:∀ i,i<8→monC (b i) = monC (b' i)):row8 b = row8 b':=by
 unfold row8
 rw [h 0 (by omega),h 1 (by omega),h 2 (by omega),h 3 (by omega),h 4 (by omega),h 5 (by omega),h 6 (by omega),h 7 (by omega)]
def fT (f : Rat→Rat) (t:Tm):Tm:=⟨f t.c,t.m⟩
def mrgF (f : Rat→Rat) (P Q:List Tm):List Tm:=mrg P (Q.map (fT f))
theorem mrgF_gt {f : Rat→Rat} {s t:Tm} {P Q:List Tm} (h:lx s.m t.m = 1):mrgF f (s :: P) (t :: Q) = s :: mrgF f P (t :: Q):=by
 unfold mrgF
 rw [List.map_cons,mrg,if_pos (show 0<lx s.m (fT f t).m by show 0<lx s.m t.m;omega)]
theorem mrgF_lt {f : Rat→Rat} {s t:Tm} {P Q:List Tm} (h:lx s.m t.m = -1):mrgF f (s :: P) (t :: Q) = fT f t :: mrgF f (s :: P) Q:=by
 unfold mrgF
 rw [List.map_cons,mrg,if_neg (show ¬ 0<lx s.m (fT f t).m by show ¬ 0<lx s.m t.m;omega),if_pos (show lx s.m (fT f t).m<0 by show lx s.m t.m<0;omega)]
theorem mrgF_eq {f : Rat→Rat} {s t:Tm} {P Q:List Tm} (h:lx s.m t.m = 0):mrgF f (s :: P) (t :: Q) = if s.c+f t.c = 0 then mrgF f P Q else ⟨s.c+f t.c,s.m⟩ :: mrgF f P Q:=by
 unfold mrgF
 rw [List.map_cons,mrg,if_neg (show ¬ 0<lx s.m (fT f t).m by show ¬ 0<lx s.m t.m;omega),if_neg (show ¬ lx s.m (fT f t).m<0 by show ¬ lx s.m t.m<0;omega)]
 rfl
theorem mrgF_nil {f : Rat→Rat} {P Q:List Tm} (h:P = []∨Q = []):mrgF f P Q = P ++ Q.map (fT f):=by
 rcases h with rfl | rfl
 ·simp [mrgF,mrg]
 ·simp [mrgF,mrg_nil]
theorem merge_abs (P Q:List Tm) (fid:FuncId) (f:Rat→Rat) (N M:Nat) (hP:PSz P N) (hQ:PSz Q M) (hNM:N+M+1≤4398046511104) (hfs:∀ q,RSz q M→RSz (f q) M) (hn:P.length+Q.length≤100000)
  (hf:∀ q,RSz q M→Abs Tryz.prog fid [agD (ratC q)] (agD (ratC (f q)))) :
  Abs Tryz.prog 79 [polD P,polD Q,ex (.func (.func fid) #[] #[])] (polD (mrgF f P Q)):=by
 refine Ab Tryz.func79 fun s0=>?_
 rw [Tryz.ntmps79]
 apply Y1;refine Wa ?_;apply Y0;apply Y1;refine Wm ?_;refine Wq Qz.lenN ?_;refine Wm ?_;refine Wq Qz.lenN ?_;refine Wq Qz.add ?_;refine AWs.mk0 (ao rfl) (ao rfl) (tab_of rfl) (tab_of rfl) (by omega) (by omega) rfl rfl rfl rfl rfl rfl ?_;refine Wa ?_;apply Y0;apply AWp.seq;apply AWp.block
 refine AWp.loop (fun m σ=>∃ P' Q' R,R ++ mrgF f P' Q' = mrgF f P Q∧PSz P' N∧PSz Q' M∧R.length+P'.length+Q'.length≤100000∧m = P'.length+Q'.length∧σ = ⟨[(0,.d (polD P')),(1,.d (polD Q')),(2,.d (ex (.func (.func fid) #[] #[]))),(7,.own 0)],[.row 33 12 (R.map tmC)]⟩) ?le ⟨P,Q,[],rfl,hP,hQ,by simpa using hn,rfl,rfl⟩ ?round
 case le=>exact AS.le_of (by refine Yd ?_;refine Yd ?_;refine Yd ?_;refine FrLe.cons rfl (AVle.own rfl) ?_;exact FrLe.nil) (by apply Yr;exact HpLe.nil)
 case round =>
  rintro m _ ⟨P',Q',R,heq,hP',hQ',hl,rfl,rfl⟩
  rcases (show (0<P'.length∧0<Q'.length)∨P'.length = 0∨(0<P'.length∧Q'.length = 0) by omega) with ⟨h1,h2⟩ | h1 | ⟨h1,h2⟩
  ·obtain ⟨s, P', rfl⟩ : ∃ s P1, P' = s :: P1 := by cases P' with | nil => simp at h1 | cons s P1 => exact ⟨s, P1, rfl⟩
   obtain ⟨t,Q',rfl⟩:∃ t Q1,Q' = t :: Q1:=by cases Q' with | nil=>simp at h2 | cons t Q1=>exact ⟨t,Q1,rfl⟩
   simp only [List.length_cons] at hl
   have hs:=hP' s (by simp)
   have ht:=hQ' t (by simp)
   have hP1:PSz P' N:=fun u hu=>hP' u (by simp [hu])
   have hQ1:PSz Q' M:=fun u hu=>hQ' u (by simp [hu])
   apply AWp.seq;apply Y1;refine Wm ?_;refine Wq Qz.lenN ?_;refine Wq Qz.cmpT ?_;refine Wm ?_;refine Wg Qz.move ?_;refine Wg Qz.lenN ?_;refine Wg Qz.cmpT ?_;refine Wq Qz.pickT ?_;apply Y0;refine Ct ?_;apply Ys;apply AWp.block;apply AWp.seq
   refine AWp.dr' (DrawOk.self (by kernel_rfl)) [[],[(25,0)],[(26,1)],[(27,2)],[],[(29,4)],[(30,5)],[(31,6)],[(28,3),(32,7)]] [[],[0],[0,1],[0,1,2],[],[4],[4,5],[4,5,6],[0,1,2,3,4,5,6,7]] rfl (by kernel_rfl) (by kernel_rfl) (by kernel_rfl) ?_
   refine Xq Qz.move ?_;refine Xq Qz.index0 ?_;refine Xq Qz.fldE ?_;refine Xq Qz.loadEf ?_;refine Xq Qz.move ?_;refine Xq Qz.index0 ?_;refine Xq Qz.fldE ?_;refine Xq Qz.loadEf ?_;refine Xq (Qz.call (mCmp_abs s.m t.m)) ?_;refine ⟨_,rfl,?_⟩
   rcases lx_val s.m t.m with hc | hc | hc
   ·have hc' : lex8 s.m t.m = -1 := by rw [← lx_lex]; exact hc
    simp only [hc']
    apply Y0;apply AWp.block;apply Y1;refine Wq Qz.cmpF ?_;refine Wa ?_;apply Y0;refine Cf ?_;apply Y1;refine Wq Qz.cmpT ?_;refine Wa ?_;apply Y0;refine Ct ?_;apply AWp.seq
    refine AWp.dr' (DrawOk.self (by kernel_rfl)) [[],[],[],[(75,2)],[(76,3)],[(77,4)],[(74,1),(78,5)],[],[(80,7)],[(81,8)],[(82,9)],[(79,6),(83,10)],[(84,11)]] [[],[],[],[2],[2,3],[2,3,4],[1,2,3,4,5],[],[7],[7,8],[7,8,9],[1,2,3,4,5,6,7,8,9,10],[1,2,3,4,5,6,7,8,9,10,11]] rfl (by kernel_rfl) (by kernel_rfl) (by kernel_rfl) ?_
    refine Xq Qz.move ?_;refine Xq Qz.move ?_;refine Xq Qz.move ?_;refine Xq Qz.index0 ?_;refine Xq Qz.fldE ?_;refine Xq Qz.ldE ?_;refine Xq (Qz.call (hf t.c ht)) ?_;refine Xq Qz.move ?_;refine Xq Qz.index0 ?_;refine Xq Qz.fldE ?_;refine Xq Qz.loadEf ?_;(refine Hq rfl ?_;refine Bq.build (tab_of rfl) rfl rfl rfl ?_;(repeat ((first | refine ⟨_,PartOk.ag (ah rfl),?_⟩ | refine ⟨_,PartOk.one rfl (by first | exact One.ex_ rfl | exact One.sl | exact One.ep),?_⟩);refine ⟨_,rfl,?_⟩));refine ⟨_,rfl,?_⟩;refine ⟨_,rfl,?_⟩);(refine ⟨_,HStep.q rfl (Bq.slice1 (ah rfl) (tab_of rfl) (tab_of rfl) rfl rfl rfl rfl rfl),?_⟩;refine ⟨_,rfl,?_⟩);refine ⟨_,rfl,?_⟩
    (refine AWs.app (ao rfl) rfl rfl (tab_of rfl) (tab_of rfl) rfl rfl (by simp;omega) (by simp;omega) rfl (by first | ((repeat (first | exact PlainHp.nil | refine PlainHp.var ?_ | refine PlainHp.row ?_ | refine PlainHp.dead ?_));done) | fail) rfl ?_);refine Wa ?_;apply Y0;apply AWp.region;refine Wm ?_;refine Wq Qz.tailN ?_;refine Wa ?_;apply AWl.nil;apply ABlock.normal;apply ABlock.normal
    refine ALoop.next _ ?_ ⟨s :: P',Q',R ++ [fT f t],?_,hP',hQ1,?_,rfl,rfl⟩ ?_
    ·simp only [List.length_cons];omega
    ·rw [mrgF_lt hc] at heq
     rw [← heq];simp
    ·simp only [List.length_cons,List.length_append,List.length_nil];omega
    ·exact AS.le_of (by refine Yd ?_;refine Yd ?_;refine Yd ?_;refine FrLe.cons rfl (AVle.own rfl) ?_;exact FrLe.nil) (by refine HpLe.cons (OwLe.row (map_snoc tmC R (fT f t))) ?_;exact HpLe.nil)
   ·have hc' : lex8 s.m t.m = 0 := by rw [← lx_lex]; exact hc
    simp only [hc']
    apply Y0;apply AWp.block;apply Y1;refine Wq Qz.cmpF ?_;refine Wa ?_;apply Y0;refine Cf ?_;apply Y1;refine Wq Qz.cmpF ?_;refine Wa ?_;apply Y0;refine Cf ?_;apply AWp.seq;apply AWp.seq
    refine AWp.dr' (DrawOk.self (by kernel_rfl)) [[],[(34,0)],[(35,1)],[(36,2)],[],[],[(39,5)],[(40,6)],[(41,7)],[(38,4),(42,8)],[(37,3),(43,9)],[]] [[],[0],[0,1],[0,1,2],[],[],[5],[5,6],[5,6,7],[4,5,6,7,8],[0,1,2,3,4,5,6,7,8,9],[]] rfl (by kernel_rfl) (by kernel_rfl) (by kernel_rfl) ?_
    refine Xq Qz.move ?_;refine Xq Qz.index0 ?_;refine Xq Qz.fldE ?_;refine Xq Qz.ldE ?_;refine Xq Qz.move ?_;refine Xq Qz.move ?_;refine Xq Qz.index0 ?_;refine Xq Qz.fldE ?_;refine Xq Qz.ldE ?_;refine Xq (Qz.call (hf t.c ht)) ?_;refine Xq (Qz.call (Add_abs s.c (f t.c) N M hs (hfs _ ht) hNM)) ?_;refine Xn ?_;refine ⟨_,rfl,?_⟩
    by_cases hz:s.c+f t.c = 0
    ·have hsg : (s.c + f t.c).num.sign = 0 := by rw [hz]; rfl
     refine Sf ?_;apply Y0;apply Y1;refine Wq Qz.ldD ?_;refine Wq (Qz.call (Sign_abs (s.c+f t.c))) ?_;refine Wq Qz.cmpF ?_;apply Y0;refine Cf ?_;apply Ys
     refine AWp.dr' (DrawOk.self (by kernel_rfl)) [[],[(57,0)],[],[(59,2)],[(58,1)]] [[],[0],[],[2],[0,1]] rfl (by kernel_rfl) (by kernel_rfl) (by kernel_rfl) ?_
     refine Xq Qz.move ?_;refine Xq Qz.tailN ?_;refine Xq Qz.move ?_;refine Xq Qz.tailN ?_;refine Xq Qz.assign ?_;refine ⟨_,rfl,?_⟩
     refine Wa ?_;apply AWl.nil;apply ABlock.normal;apply ABlock.normal
     refine ALoop.next _ ?_ ⟨P',Q',R,?_,hP1,hQ1,?_,rfl,rfl⟩ ?_
     ·simp only [List.length_cons];omega
     ·rw [mrgF_eq hc,if_pos hz] at heq
      exact heq
     ·omega
     ·exact AS.le_of (by refine Yd ?_;refine Yd ?_;refine Yd ?_;refine FrLe.cons rfl (AVle.own rfl) ?_;exact FrLe.nil) (by apply Yr;exact HpLe.nil)
    ·have hsg : (s.c + f t.c).num.sign ≠ 0 := by simpa using hz
     refine Sf ?_;apply Y0;apply Y1;refine Wq Qz.ldD ?_;refine Wq (Qz.call (Sign_abs (s.c+f t.c))) ?_;refine Wq Qz.cmpT ?_;apply Y0;refine Ct ?_
     refine AWp.dr' (DrawOk.self (by kernel_rfl)) [[],[],[],[(50,2)],[(51,3)],[(52,4)],[(49,1),(53,5)],[(54,6)]] [[],[],[],[2],[2,3],[2,3,4],[1,2,3,4,5],[1,2,3,4,5,6]] rfl (by kernel_rfl) (by kernel_rfl) (by kernel_rfl) ?_
     refine Xq Qz.move ?_;refine Xq Qz.ldD ?_;refine Xq Qz.move ?_;refine Xq Qz.index0 ?_;refine Xq Qz.fldE ?_;refine Xq Qz.loadEf ?_;(refine Hq rfl ?_;refine Bq.build (tab_of rfl) rfl rfl rfl ?_;(repeat ((first | refine ⟨_,PartOk.ag (ah rfl),?_⟩ | refine ⟨_,PartOk.one rfl (by first | exact One.ex_ rfl | exact One.sl | exact One.ep),?_⟩);refine ⟨_,rfl,?_⟩));refine ⟨_,rfl,?_⟩;refine ⟨_,rfl,?_⟩);(refine ⟨_,HStep.q rfl (Bq.slice1 (ah rfl) (tab_of rfl) (tab_of rfl) rfl rfl rfl rfl rfl),?_⟩;refine ⟨_,rfl,?_⟩);refine ⟨_,rfl,?_⟩
     (refine AWs.app (ao rfl) rfl rfl (tab_of rfl) (tab_of rfl) rfl rfl (by simp;omega) (by simp;omega) rfl (by first | ((repeat (first | exact PlainHp.nil | refine PlainHp.var ?_ | refine PlainHp.row ?_ | refine PlainHp.dead ?_));done) | fail) rfl ?_);refine Wa ?_;apply Y0
     refine AWp.dr' (DrawOk.self (by kernel_rfl)) [[],[(57,0)],[],[(59,2)],[(58,1)]] [[],[0],[],[2],[0,1]] rfl (by kernel_rfl) (by kernel_rfl) (by kernel_rfl) ?_
     refine Xq Qz.move ?_;refine Xq Qz.tailN ?_;refine Xq Qz.move ?_;refine Xq Qz.tailN ?_;refine Xq Qz.assign ?_;refine ⟨_,rfl,?_⟩
     refine Wa ?_;apply AWl.nil;apply ABlock.normal;apply ABlock.normal
     refine ALoop.next _ ?_ ⟨P',Q',R ++ [⟨s.c+f t.c,s.m⟩],?_,hP1,hQ1,?_,rfl,rfl⟩ ?_
     ·simp only [List.length_cons];omega
     ·rw [mrgF_eq hc,if_neg hz] at heq
      rw [← heq];simp
     ·simp only [List.length_append,List.length_cons,List.length_nil];omega
     ·exact AS.le_of (by refine Yd ?_;refine Yd ?_;refine Yd ?_;refine FrLe.cons rfl (AVle.own rfl) ?_;exact FrLe.nil) (by refine HpLe.cons (OwLe.row (map_snoc tmC R ⟨s.c+f t.c,s.m⟩)) ?_;exact HpLe.nil)
   ·have hc' : lex8 s.m t.m = 1 := by rw [← lx_lex]; exact hc
    simp only [hc']
    apply Y0;apply AWp.block;apply Y1;refine Wq Qz.cmpT ?_;refine Wa ?_;apply Y0;refine Ct ?_;apply Y1;refine Wm ?_;refine Wm ?_;refine Wq Qz.index0 ?_;refine Wq Qz.loadEf ?_;(refine AWs.q rfl rfl ?_;refine ⟨_,Bq.slice1 (ao rfl) (tab_of rfl) (tab_of rfl) rfl rfl rfl rfl rfl,?_⟩);(refine AWs.app (ao rfl) rfl rfl (tab_of rfl) (tab_of rfl) rfl rfl (by simp;omega) (by simp;omega) rfl (by first | ((repeat (first | exact PlainHp.nil | refine PlainHp.var ?_ | refine PlainHp.row ?_ | refine PlainHp.dead ?_));done) | fail) rfl ?_);refine Wa ?_;apply Y0;apply AWp.region;refine Wm ?_;refine Wq Qz.tailN ?_;refine Wa ?_;apply AWl.nil;apply ABlock.normal;apply ABlock.normal
    refine ALoop.next _ ?_ ⟨P',t :: Q',R ++ [s],?_,hP1,hQ',?_,rfl,rfl⟩ ?_
    ·simp only [List.length_cons];omega
    ·rw [mrgF_gt hc] at heq
     rw [← heq];simp
    ·simp only [List.length_cons,List.length_append,List.length_nil];omega
    ·exact AS.le_of (by refine Yd ?_;refine Yd ?_;refine Yd ?_;refine FrLe.cons rfl (AVle.own rfl) ?_;exact FrLe.nil) (by refine HpLe.cons (OwLe.row (map_snoc tmC R s)) ?_;exact HpLe.nil)
  ·have hmn : mrgF f P' Q' = P' ++ Q'.map (fT f) := mrgF_nil (by first | exact .inl (List.eq_nil_of_length_eq_zero (by omega)) | exact .inr (List.eq_nil_of_length_eq_zero (by omega)))
   apply AWp.seq;apply Y1;refine Wm ?_;refine Wq Qz.lenN ?_;refine Wq Qz.cmpF ?_;refine Wm ?_;refine Ws ?_;refine Ws ?_;refine Ws ?_;refine Wq Qz.pickF ?_;apply Y0;refine Cf ?_;apply AWp.exit;apply AThen.exit;apply ALoop.exit;apply ABlock.hit;apply Yn;apply Y1;refine Wm ?_;refine Wm ?_;(refine AWs.app (ao rfl) rfl rfl (tab_of rfl) (tab_of rfl) rfl rfl (by simp;omega) (by simp;omega) rfl (by first | ((repeat (first | exact PlainHp.nil | refine PlainHp.var ?_ | refine PlainHp.row ?_ | refine PlainHp.dead ?_));done) | fail) rfl ?_);refine Wa ?_;apply Y0;apply AWp.seq;apply Y1;refine Wm ?_;refine Wq Qz.lenN ?_;refine Wm ?_;apply Y0;apply AWp.block
   refine AWp.loop (fun m σ=>∃ k,k≤Q'.length∧m = Q'.length - k∧σ = ⟨[(2,.d (ex (.func (.func fid) #[] #[]))),(7,.own 0),(92,.d (polD Q')),(93,.d (ex (.int .i64 (Q'.length:Nat)))),(94,.d (ex (.int .i64 (k:Nat))))],[.row 33 12 ((R ++ P' ++ (Q'.take k).map (fT f)).map tmC)]⟩) ?le ⟨0,by omega,rfl,rfl⟩ ?round
   case le=>exact AS.le_of (by repeat (first | exact FrLe.nil | refine Yd ?_ | refine FrLe.cons rfl (AVle.own rfl) ?_)) (HpLe.cons (OwLe.row (by simp)) HpLe.nil)
   case round =>
    rintro m _ ⟨k,hk,rfl,rfl⟩
    by_cases hlt:k<Q'.length
    ·have ht:=hQ' _ (tAt_mem hlt)
     have htk:=take_tAt hlt
     apply Y1;refine Wq Qz.cmpT ?_;apply Y0;apply AWp.seq;refine Ct ?_;apply Ys;apply AWp.seq;apply AWp.block;apply Y1;refine Wq Qz.indexN ?_;refine Wq Qz.loadEf ?_;refine AWs.al (tab_of rfl) rfl rfl rfl rfl rfl rfl ?_;refine Sf ?_;apply Y0
     refine AWp.dr' (DrawOk.self (by kernel_rfl)) [[],[],[],[(100,2)],[(99,1),(101,3)],[],[(103,5)],[(102,4),(104,6)],[(105,7)]] [[],[],[],[2],[1,2,3],[],[5],[1,2,3,4,5,6],[1,2,3,4,5,6,7]] rfl (by kernel_rfl) (by kernel_rfl) (by kernel_rfl) ?_
     refine Xq Qz.move ?_;refine Xq Qz.move ?_;refine Xq Qz.fldP ?_;refine Xq Qz.ldD ?_;refine Xq (Qz.call (hf (tAt Q' k).c ht)) ?_;refine Xq Qz.fldP ?_;refine Xq Qz.ldD ?_;(refine Hq rfl ?_;refine Bq.build (tab_of rfl) rfl rfl rfl ?_;(repeat ((first | refine ⟨_,PartOk.ag (ah rfl),?_⟩ | refine ⟨_,PartOk.one rfl (by first | exact One.ex_ rfl | exact One.sl | exact One.ep),?_⟩);refine ⟨_,rfl,?_⟩));refine ⟨_,rfl,?_⟩;refine ⟨_,rfl,?_⟩);(refine ⟨_,HStep.q rfl (Bq.slice1 (ah rfl) (tab_of rfl) (tab_of rfl) rfl rfl rfl rfl rfl),?_⟩;refine ⟨_,rfl,?_⟩);refine ⟨_,rfl,?_⟩
     (refine AWs.app (ao rfl) rfl rfl (tab_of rfl) (tab_of rfl) rfl rfl (by simp;omega) (by simp;omega) rfl (by first | ((repeat (first | exact PlainHp.nil | refine PlainHp.var ?_ | refine PlainHp.row ?_ | refine PlainHp.dead ?_));done) | fail) rfl ?_);refine Wa ?_;apply AWl.nil;apply ABlock.normal;apply Yn;apply AWp.region;refine Wq Qz.succ ?_;refine Wm ?_;apply AWl.nil
     refine ALoop.next (Q'.length - (k+1)) (by omega) ⟨k+1,by omega,rfl,rfl⟩ ?_
     exact AS.le_of (by refine Yd ?_;refine FrLe.cons rfl (AVle.own rfl) ?_;refine Yd ?_;refine Yd ?_;refine Yd ?_;exact FrLe.nil) (by (refine HpLe.cons (OwLe.row ((map_snoc tmC _ (fT f (tAt Q' k))).trans (by rw [← htk];simp))) ?_);exact HpLe.nil)
    ·obtain rfl : k = Q'.length := by omega
     apply Y1;refine Wq Qz.cmpF ?_;apply Y0;apply AWp.seq;refine Cf ?_;apply AWp.exit;apply AThen.exit;apply ALoop.exit;apply ABlock.hit;apply Yn;apply Y1;refine Wm ?_;refine Wa ?_;apply Y0;apply AWp.ret
     refine Fin.ret (Rets.one rfl rfl (D.le.of_eq ?_))
     rw [List.take_length,List.append_assoc,← hmn,heq]
     rfl
  ·have hmn : mrgF f P' Q' = P' ++ Q'.map (fT f) := mrgF_nil (by first | exact .inl (List.eq_nil_of_length_eq_zero (by omega)) | exact .inr (List.eq_nil_of_length_eq_zero (by omega)))
   apply AWp.seq;apply Y1;refine Wm ?_;refine Wq Qz.lenN ?_;refine Wq Qz.cmpT ?_;refine Wm ?_;refine Wg Qz.move ?_;refine Wg Qz.lenN ?_;refine Wg Qz.cmpF ?_;refine Wq Qz.pickT ?_;apply Y0;refine Cf ?_;apply AWp.exit;apply AThen.exit;apply ALoop.exit;apply ABlock.hit;apply Yn;apply Y1;refine Wm ?_;refine Wm ?_;(refine AWs.app (ao rfl) rfl rfl (tab_of rfl) (tab_of rfl) rfl rfl (by simp;omega) (by simp;omega) rfl (by first | ((repeat (first | exact PlainHp.nil | refine PlainHp.var ?_ | refine PlainHp.row ?_ | refine PlainHp.dead ?_));done) | fail) rfl ?_);refine Wa ?_;apply Y0;apply AWp.seq;apply Y1;refine Wm ?_;refine Wq Qz.lenN ?_;refine Wm ?_;apply Y0;apply AWp.block
   refine AWp.loop (fun m σ=>∃ k,k≤Q'.length∧m = Q'.length - k∧σ = ⟨[(2,.d (ex (.func (.func fid) #[] #[]))),(7,.own 0),(92,.d (polD Q')),(93,.d (ex (.int .i64 (Q'.length:Nat)))),(94,.d (ex (.int .i64 (k:Nat))))],[.row 33 12 ((R ++ P' ++ (Q'.take k).map (fT f)).map tmC)]⟩) ?le ⟨0,by omega,rfl,rfl⟩ ?round
   case le=>exact AS.le_of (by repeat (first | exact FrLe.nil | refine Yd ?_ | refine FrLe.cons rfl (AVle.own rfl) ?_)) (HpLe.cons (OwLe.row (by simp)) HpLe.nil)
   case round =>
    rintro m _ ⟨k,hk,rfl,rfl⟩
    by_cases hlt:k<Q'.length
    ·have ht:=hQ' _ (tAt_mem hlt)
     have htk:=take_tAt hlt
     apply Y1;refine Wq Qz.cmpT ?_;apply Y0;apply AWp.seq;refine Ct ?_;apply Ys;apply AWp.seq;apply AWp.block;apply Y1;refine Wq Qz.indexN ?_;refine Wq Qz.loadEf ?_;refine AWs.al (tab_of rfl) rfl rfl rfl rfl rfl rfl ?_;refine Sf ?_;apply Y0
     refine AWp.dr' (DrawOk.self (by kernel_rfl)) [[],[],[],[(100,2)],[(99,1),(101,3)],[],[(103,5)],[(102,4),(104,6)],[(105,7)]] [[],[],[],[2],[1,2,3],[],[5],[1,2,3,4,5,6],[1,2,3,4,5,6,7]] rfl (by kernel_rfl) (by kernel_rfl) (by kernel_rfl) ?_
     refine Xq Qz.move ?_;refine Xq Qz.move ?_;refine Xq Qz.fldP ?_;refine Xq Qz.ldD ?_;refine Xq (Qz.call (hf (tAt Q' k).c ht)) ?_;refine Xq Qz.fldP ?_;refine Xq Qz.ldD ?_;(refine Hq rfl ?_;refine Bq.build (tab_of rfl) rfl rfl rfl ?_;(repeat ((first | refine ⟨_,PartOk.ag (ah rfl),?_⟩ | refine ⟨_,PartOk.one rfl (by first | exact One.ex_ rfl | exact One.sl | exact One.ep),?_⟩);refine ⟨_,rfl,?_⟩));refine ⟨_,rfl,?_⟩;refine ⟨_,rfl,?_⟩);(refine ⟨_,HStep.q rfl (Bq.slice1 (ah rfl) (tab_of rfl) (tab_of rfl) rfl rfl rfl rfl rfl),?_⟩;refine ⟨_,rfl,?_⟩);refine ⟨_,rfl,?_⟩
     (refine AWs.app (ao rfl) rfl rfl (tab_of rfl) (tab_of rfl) rfl rfl (by simp;omega) (by simp;omega) rfl (by first | ((repeat (first | exact PlainHp.nil | refine PlainHp.var ?_ | refine PlainHp.row ?_ | refine PlainHp.dead ?_));done) | fail) rfl ?_);refine Wa ?_;apply AWl.nil;apply ABlock.normal;apply Yn;apply AWp.region;refine Wq Qz.succ ?_;refine Wm ?_;apply AWl.nil
     refine ALoop.next (Q'.length - (k+1)) (by omega) ⟨k+1,by omega,rfl,rfl⟩ ?_
     exact AS.le_of (by refine Yd ?_;refine FrLe.cons rfl (AVle.own rfl) ?_;refine Yd ?_;refine Yd ?_;refine Yd ?_;exact FrLe.nil) (by (refine HpLe.cons (OwLe.row ((map_snoc tmC _ (fT f (tAt Q' k))).trans (by rw [← htk];simp))) ?_);exact HpLe.nil)
    ·obtain rfl : k = Q'.length := by omega
     apply Y1;refine Wq Qz.cmpF ?_;apply Y0;apply AWp.seq;refine Cf ?_;apply AWp.exit;apply AThen.exit;apply ALoop.exit;apply ABlock.hit;apply Yn;apply Y1;refine Wm ?_;refine Wa ?_;apply Y0;apply AWp.ret
     refine Fin.ret (Rets.one rfl rfl (D.le.of_eq ?_))
     rw [List.take_length,List.append_assoc,← hmn,heq]
     rfl
theorem Add1_abs (q : Rat):Abs Tryz.prog 80 [agD (ratC q)] (agD (ratC q)):=by
 refine Ab Tryz.func80 fun s0=>?_
 rw [Tryz.ntmps80]
 apply Y1;refine AWs.bx (ao rfl) rfl rfl rfl rfl ?_;refine AWs.al (tab_of rfl) rfl rfl rfl rfl rfl rfl ?_;apply Y0;apply Y1;refine Wq Qz.ldD ?_;refine Sf ?_;apply Y0;apply AWp.ret
 exact Fin.ret (Rets.of1 (ResV.cell rfl rfl (tab_of rfl) rfl rfl rfl) (D.le.refl _))
theorem PAdd_abs (P Q:List Tm) (N M:Nat) (hP:PSz P N) (hQ:PSz Q M) (hNM:N+M+1≤4398046511104) (hn:P.length+Q.length≤100000):Abs Tryz.prog 20 [polD P,polD Q] (polD (mrg P Q)):=by
 have he:mrgF (fun q=>q) P Q = mrg P Q:=by
  unfold mrgF
  have:Q.map (fT fun q=>q) = Q:=List.map_id Q
  rw [this]
 refine Ab Tryz.func20 fun s0=>?_
 rw [Tryz.ntmps20]
 apply Y1;refine Wa ?_;apply Y0;apply Y1;refine Wm ?_;refine Wm ?_;refine Wq (Qz.call (merge_abs P Q 80 (fun q=>q) N M hP hQ hNM (fun _ h=>h) hn (fun q _=>Add1_abs q))) ?_;refine Wa ?_;apply Y0;apply AWp.ret
 exact Fin.ret (Rets.of1 (ResV.tmp rfl rfl) (D.le_pol he))
theorem PSub_abs (P Q:List Tm) (N M:Nat) (hP:PSz P N) (hQ:PSz Q M) (hNM:N+M+1≤4398046511104) (hn:P.length+Q.length≤100000):Abs Tryz.prog 21 [polD P,polD Q] (polD (mrgF (fun q=>-q) P Q)):=by
 refine Ab Tryz.func21 fun s0=>?_
 rw [Tryz.ntmps21]
 apply Y1;refine Wa ?_;apply Y0;apply Y1;refine Wm ?_;refine Wm ?_;refine Wq (Qz.call (merge_abs P Q 81 (fun q=>-q) N M hP hQ hNM (fun q h=>h.neg) hn (fun q h=>Neg_abs q M h (by omega)))) ?_;refine Wa ?_;apply Y0;apply AWp.ret
 exact Yf
def constL (c : Rat):List Tm:=if c = 0 then [] else [⟨c,fun _=>0⟩]
theorem PConst_abs (c : Rat):Abs Tryz.prog 22 [agD (ratC c)] (polD (constL c)):=by
 refine Ab Tryz.func22 fun s0=>?_
 rw [Tryz.ntmps22]
 by_cases hz:c = 0
 ·have hs:=num_sign0.2 hz
  apply Y1;refine AWs.bx (ao rfl) rfl rfl rfl rfl ?_;refine Wa ?_;apply Y0;apply AWp.seq;apply Y1;refine Wq Qz.ldD ?_;refine Wq (Qz.call (Sign_abs c)) ?_;refine Wq Qz.cmpT ?_;apply Y0;refine Ct ?_;apply Y1;refine Wa ?_;apply Y0;apply AWp.ret;apply AThen.ret
  exact Fin.ret (Rets.of1 (ResV.tmp rfl rfl) (D.le.trans D.le_nilP (D.le_pol (by rw [constL,if_pos hz]))))
 ·have hs:c.num.sign ≠ 0:=fun e=>hz (num_sign0.1 e)
  apply Y1;refine AWs.bx (ao rfl) rfl rfl rfl rfl ?_;refine Wa ?_;apply Y0;apply AWp.seq;apply Y1;refine Wq Qz.ldD ?_;refine Wq (Qz.call (Sign_abs c)) ?_;refine Wq Qz.cmpF ?_;apply Y0;refine Cf ?_;apply Ys;apply Y1;refine Wq Qz.ldD ?_;(refine AWs.q rfl rfl ?_;(refine Bq.build (tab_of rfl) rfl rfl rfl ?_;(repeat ((first | refine ⟨_,PartOk.ag (ao rfl),?_⟩ | refine ⟨_,PartOk.one rfl (by first | exact One.ex_ rfl | exact One.sl | exact One.ep),?_⟩);refine ⟨_,rfl,?_⟩));refine ⟨_,rfl,?_⟩));(refine AWs.q rfl rfl ?_;refine ⟨_,Bq.slice1 (ao rfl) (tab_of rfl) (tab_of rfl) rfl rfl rfl rfl rfl,?_⟩);refine Wa ?_;apply Y0;apply AWp.ret
  exact Fin.ret (Rets.of1 (ResV.tmp rfl rfl) (D.le.of_eq (by rw [constL,if_neg hz];rfl)))
def unitE (i : Nat):Nat→Int:=setM (fun _=>0) i 1
theorem PVar_abs (i : Nat) (hi:i<8):Abs Tryz.prog 25 [ex (.int .i64 (i:Nat))] (tupD [polD [⟨1,unitE i⟩],ex (.int .i64 0)]):=by
 refine Ab Tryz.func25 fun s0=>?_
 rw [Tryz.ntmps25]
 apply Y1;refine Wa ?_;refine Wa ?_;apply Y0;apply AWp.seq;apply Y1;refine Wm ?_;refine Wq Qz.cmpF ?_;refine Wm ?_;refine Wg Qz.move ?_;refine Wg Qz.cmpF ?_;refine Wq Qz.pickF ?_;apply Y0;refine Cf ?_;apply Ys;apply Y1;refine AWs.al (tab_of rfl) rfl rfl rfl rfl rfl rfl ?_;apply Y0;apply Y1;refine Wm ?_;refine Wq Qz.ixP ?_
 refine AWl.fold 0 (monC fun _=>0) rfl rfl rfl ?_
 (refine AWs.stX1 (ao rfl) (ao rfl) rfl (tab_of rfl) (by first | exact One.ex_ rfl | exact One.sl | exact One.ep) (SetAt.mon (by first | omega | (simp;omega))) rfl ?_);apply Y0;apply AWp.seq
 refine AWp.dr' (DrawOk.self (by kernel_rfl)) [[],[],[(13,0),(14,1)],[(15,2)]] [[],[],[0,1],[0,1,2]] rfl (by kernel_rfl) (by kernel_rfl) (by kernel_rfl) ?_
 refine Xq (Qz.call (Whole_abs 1 (by omega) (by omega))) ?_;refine Xq Qz.ldD ?_;(refine Hq rfl ?_;refine Bq.build (tab_of rfl) rfl rfl rfl ?_;(repeat ((first | refine ⟨_,PartOk.ag (ah rfl),?_⟩ | refine ⟨_,PartOk.one rfl (by first | exact One.ex_ rfl | exact One.sl | exact One.ep),?_⟩);refine ⟨_,rfl,?_⟩));refine ⟨_,rfl,?_⟩;refine ⟨_,rfl,?_⟩);(refine ⟨_,HStep.q rfl (Bq.slice1 (ah rfl) (tab_of rfl) (tab_of rfl) rfl rfl rfl rfl rfl),?_⟩;refine ⟨_,rfl,?_⟩);refine ⟨_,rfl,?_⟩
 refine Wa ?_;refine Wa ?_;apply Y0;apply AWp.ret
 exact Fin.ret (Rets.of2 (ResV.tmp rfl rfl) (ResV.tmp rfl rfl) (D.le.tup2 (D.le.refl _) (D.le.refl _)))
theorem PTimes_abs (c : Rat) (m:Nat→Int) (P:List Tm) (N M:Nat) (hc:c ≠ 0) (hcs:RSz c N) (hm:In8 m 0 65535) (hP:PSz P M) (hPi:PIn P 0 65535) (hmP:∀ t∈P,In8 (add8 m t.m) 0 65535) (hn:P.length≤100000) (hNM:N+M≤4398046511104):Abs Tryz.prog 39 [agD (ratC c),agD (monC m),polD P] (tupD [polD (tms c m P),ex (.int .i64 0)]):=by
 have hs:c.num.sign ≠ 0:=fun e=>hc (num_sign0.1 e)
 refine Ab Tryz.func39 fun s0=>?_
 rw [Tryz.ntmps39]
 apply Y1;refine AWs.bx (ao rfl) rfl rfl rfl rfl ?_;refine AWs.bx (ao rfl) rfl rfl rfl rfl ?_;refine Wa ?_;refine Wa ?_;apply Y0;apply AWp.seq;apply Y1;refine Wq Qz.ldD ?_;refine Wq (Qz.call (Sign_abs c)) ?_;refine Wq Qz.cmpF ?_;apply Y0;refine Cf ?_;apply Ys;apply Y1;refine Wm ?_;refine Wq Qz.lenN ?_;refine AWs.mk0 (ao rfl) (ao rfl) (tab_of rfl) (tab_of rfl) (by omega) (by omega) rfl rfl rfl rfl rfl rfl ?_;refine Wa ?_;apply Y0;apply AWp.seq;apply Y1;refine Wm ?_;refine Wq Qz.lenN ?_;refine Wm ?_;apply Y0;apply AWp.block
 refine AWp.loop (fun mz σ=>∃ k,k≤P.length∧mz = P.length - k∧σ = ⟨[(3,.ptr 0 0),(4,.ptr 1 0),(7,.d (ex (.int .i64 0))),(8,.own 2),(19,.d (polD P)),(20,.d (ex (.int .i64 (P.length:Nat)))),(21,.d (ex (.int .i64 (k:Nat))))],[.var 29 ((ratC c).map .d),.var 31 ((monC m).map .d),.row 33 12 ((tms c m (P.take k)).map tmC)]⟩) ?le ⟨0,by omega,rfl,rfl⟩ ?round
 case le=>exact AS.le_of (by refine Yp ?_;refine Yp ?_;refine Yd ?_;refine FrLe.cons rfl (AVle.own rfl) ?_;refine Yd ?_;refine Yd ?_;refine Yd ?_;exact FrLe.nil) (by apply Yv;apply Yv;apply Yr;exact HpLe.nil)
 case round =>
  rintro mz _ ⟨k,hk,rfl,rfl⟩
  by_cases hlt:k<P.length
  ·have ht:=tAt_mem hlt
   have htk:=take_tAt hlt
   apply Y1;refine Wq Qz.cmpT ?_;apply Y0;apply AWp.seq;refine Ct ?_;apply Ys;apply AWp.seq;apply AWp.block;apply Y1;refine Wq Qz.indexN ?_;refine Wq Qz.loadEf ?_;refine AWs.al (tab_of rfl) rfl rfl rfl rfl rfl rfl ?_;refine Sf ?_;apply Y0;apply Y1;refine Wq Qz.ldD ?_;refine Wq Qz.fldP ?_;refine Wq Qz.ldD ?_;refine Wq (Qz.call (mMul_abs m (tAt P k).m hm (hPi _ ht) (hmP _ ht))) ?_;refine Wm ?_;refine Wq Qz.ext ?_;refine Wq Qz.ext ?_;refine AWs.al (tab_of rfl) rfl rfl rfl rfl rfl rfl ?_;refine Sf ?_;refine Wa ?_;apply Y0;apply AWp.seq;apply Y1;refine Wm ?_;refine Wq Qz.cmpF ?_;apply Y0;refine Cf ?_;apply Ys
   refine AWp.dr' (DrawOk.self (by kernel_rfl)) [[],[],[],[(37,2)],[(36,1),(38,3)],[],[(39,4),(40,5)],[(41,6)]] [[],[],[],[2],[1,2,3],[],[1,2,3,4,5],[1,2,3,4,5,6]] rfl (by kernel_rfl) (by kernel_rfl) (by kernel_rfl) ?_
   refine Xq Qz.move ?_;refine Xq Qz.ldD ?_;refine Xq Qz.fldP ?_;refine Xq Qz.ldD ?_;refine Xq (Qz.call (Mul_abs c (tAt P k).c N M hcs (hP _ ht) hNM)) ?_;refine Xq Qz.ldD ?_;(refine Hq rfl ?_;refine Bq.build (tab_of rfl) rfl rfl rfl ?_;(repeat ((first | refine ⟨_,PartOk.ag (ah rfl),?_⟩ | refine ⟨_,PartOk.one rfl (by first | exact One.ex_ rfl | exact One.sl | exact One.ep),?_⟩);refine ⟨_,rfl,?_⟩));refine ⟨_,rfl,?_⟩;refine ⟨_,rfl,?_⟩);(refine ⟨_,HStep.q rfl (Bq.slice1 (ah rfl) (tab_of rfl) (tab_of rfl) rfl rfl rfl rfl rfl),?_⟩;refine ⟨_,rfl,?_⟩);refine ⟨_,rfl,?_⟩
   (refine AWs.app (ao rfl) rfl rfl (tab_of rfl) (tab_of rfl) rfl rfl (by simp;omega) (by simp;omega) rfl (by first | ((repeat (first | exact PlainHp.nil | refine PlainHp.var ?_ | refine PlainHp.row ?_ | refine PlainHp.dead ?_));done) | fail) rfl ?_);refine Wa ?_;apply AWl.nil;apply ABlock.normal;apply Yn;apply AWp.region;refine Wq Qz.succ ?_;refine Wm ?_;apply AWl.nil
   refine ALoop.next (P.length - (k+1)) (by omega) ⟨k+1,by omega,rfl,rfl⟩ ?_
   exact AS.le_of (by refine Yp ?_;refine Yp ?_;refine Yd ?_;refine FrLe.cons rfl (AVle.own rfl) ?_;refine Yd ?_;refine Yd ?_;refine Yd ?_;exact FrLe.nil) (by apply Yv;apply Yv;(refine HpLe.cons (OwLe.row ((map_snoc tmC _ ⟨c*(tAt P k).c,add8 m (tAt P k).m⟩).trans (by rw [← htk];simp [tms]))) ?_);exact HpLe.nil)
  ·obtain rfl : k = P.length := by omega
   apply Y1;refine Wq Qz.cmpF ?_;apply Y0;apply AWp.seq;refine Cf ?_;apply AWp.exit;apply AThen.exit;apply ALoop.exit;apply ABlock.hit;apply Yn;apply Y1;refine Wm ?_;refine Wa ?_;refine Wa ?_;apply Y0;apply AWp.ret
   exact Fin.ret (Rets.of2 (ResV.tmp rfl rfl) (ResV.tmp rfl rfl) (D.le.tup2 (D.le.of_eq (by rw [List.take_length];rfl)) (D.le.refl _)))
def zeroT : List D:=[ex (.bool false),ex (.slice none 0 0),ex (.bool false),ex (.slice none 0 0)] ++ monC fun _=>0
theorem PLead0_abs (R : List (Nat→Int)):Abs Tryz.prog 35 [polD [],ordD R] (tupD [agD zeroT,ex (.bool false)]):=by
 refine Ab Tryz.func35 fun s0=>?_
 rw [Tryz.ntmps35]
 apply Y1;refine AWs.al (tab_of rfl) rfl rfl rfl rfl rfl rfl ?_;refine Wa ?_;apply Y0;apply AWp.seq;apply Y1;refine Wm ?_;refine Wq Qz.lenN ?_;refine Wq Qz.cmpT ?_;apply Y0;refine Ct ?_;apply Y1;(refine AWs.q rfl rfl ?_;(refine Bq.build (tab_of rfl) rfl rfl rfl ?_;(repeat ((first | refine ⟨_,PartOk.ag (ao rfl),?_⟩ | refine ⟨_,PartOk.one rfl (by first | exact One.ex_ rfl | exact One.sl | exact One.ep),?_⟩);refine ⟨_,rfl,?_⟩));refine ⟨_,rfl,?_⟩));refine Sf ?_;refine Wa ?_;apply Y0;apply AWp.ret;apply AThen.ret
 exact Fin.ret (Rets.of2 (ResV.cell rfl rfl (tab_of rfl) rfl rfl rfl) (ResV.tmp rfl rfl) (D.le.tup2 (D.le.refl _) (D.le.refl _)))
theorem leadF_take (R : List (Nat→Int)) (s:Tm) {P:List Tm} {k:Nat} (h:k<P.length):leadF R s (P.take (k+1)) = upT R (leadF R s (P.take k)) (tAt P k):=foldl_tAt _ _ h
theorem leadF_mem (R : List (Nat→Int)):∀ (P:List Tm) (s:Tm),leadF R s P∈s :: P
 | [],s=>by simp [leadF]
 | t :: P,s=>by
  have h:=leadF_mem R P (upT R s t)
  have e:leadF R s (t :: P) = leadF R (upT R s t) P:=rfl
  rw [e]
  rcases List.mem_cons.1 h with h1 | h1
  ·rw [h1]
   unfold upT
   split <;> simp
  ·simp [h1]
theorem leadF_take_mem (R : List (Nat→Int)) (s:Tm) (P:List Tm) (k:Nat):leadF R s (P.take k)∈s :: P:=by
 rcases List.mem_cons.1 (leadF_mem R (P.take k) s) with h | h
 ·rw [h];simp
 ·exact List.mem_cons_of_mem _ (List.mem_of_mem_take h)
theorem PLead_abs (s : Tm) (P:List Tm) (R:List (Nat→Int)) (hR:∀ r∈R,In8 r (-1000) 1000) (hP:PIn (s :: P) (-1000000) 1000000) (hn:P.length≤1000000):Abs Tryz.prog 35 [polD (s :: P),ordD R] (tupD [agD (tmC (leadF R s P)),ex (.bool true)]):=by
 refine Ab Tryz.func35 fun s0=>?_
 rw [Tryz.ntmps35]
 apply Y1;refine AWs.al (tab_of rfl) rfl rfl rfl rfl rfl rfl ?_;refine Wa ?_;apply Y0;apply AWp.seq;apply Y1;refine Wm ?_;refine Wq Qz.lenN ?_;refine Wq Qz.cmpF ?_;apply Y0;refine Cf ?_;apply Ys;apply Y1;refine Wm ?_;refine Wq Qz.index0 ?_;refine Wq Qz.loadEf ?_;refine AWs.al (tab_of rfl) rfl rfl rfl rfl rfl rfl ?_;refine Sf ?_;apply Y0;apply AWp.seq;apply Y1;refine Wm ?_;refine Wq Qz.tailN ?_;refine Wq Qz.lenN ?_;refine Wm ?_;apply Y0;apply AWp.block
 refine AWp.loop (fun mz σ=>∃ k,k≤P.length∧mz = P.length - k∧σ = ⟨[(1,.d (ordD R)),(4,.ptr 0 0),(6,.ptr 1 0),(17,.d (polD P)),(18,.d (ex (.int .i64 (P.length:Nat)))),(19,.d (ex (.int .i64 (k:Nat))))],[.var 33 (zeroT.map .d),.var 33 ((tmC (leadF R s (P.take k))).map .d)]⟩) ?le ⟨0,by omega,rfl,rfl⟩ ?round
 case le=>exact AS.le_of (by refine Yd ?_;refine Yp ?_;refine Yp ?_;refine Yd ?_;refine Yd ?_;refine Yd ?_;exact FrLe.nil) (by apply Yv;apply Yv;exact HpLe.nil)
 case round =>
  rintro mz _ ⟨k,hk,rfl,rfl⟩
  by_cases hlt:k<P.length
  ·have hin:=hP _ (List.mem_cons_of_mem _ (tAt_mem hlt))
   have hin':=hP _ (leadF_take_mem R s P k)
   have hst:=leadF_take R s hlt
   by_cases hc:0<oCmp R (tAt P k).m (leadF R s (P.take k)).m
   ·rw [upT,if_pos hc] at hst
    apply Y1;refine Wq Qz.cmpT ?_;apply Y0;apply AWp.seq;refine Ct ?_;apply Ys;apply AWp.seq;apply AWp.block;apply Y1;refine Wq Qz.indexN ?_;refine Wq Qz.loadEf ?_;refine AWs.al (tab_of rfl) rfl rfl rfl rfl rfl rfl ?_;refine Sf ?_;apply Y0;apply Y1;refine Wm ?_;refine Wq Qz.fldP ?_;refine Wq Qz.ldD ?_;refine Wq Qz.fldP ?_;refine Wq Qz.ldD ?_;refine Wq (Qz.call (oCmp_abs R (tAt P k).m (leadF R s (P.take k)).m hR hin hin')) ?_;refine Wq Qz.cmpT ?_;apply Y0;refine Ct ?_;apply AWp.region;refine Wq Qz.ldD ?_;refine Sf ?_;apply AWl.nil;apply ABlock.normal;apply Yn;apply AWp.region;refine Wq Qz.succ ?_;refine Wm ?_;apply AWl.nil
    refine ALoop.next (P.length - (k+1)) (by omega) ⟨k+1,by omega,rfl,rfl⟩ ?_
    exact AS.le_of (by refine Yd ?_;refine Yp ?_;refine Yp ?_;refine Yd ?_;refine Yd ?_;refine Yd ?_;exact FrLe.nil) (by apply Yv;(refine HpLe.cons (OwLe.varD (by rw [hst] <;> rfl)) ?_);exact HpLe.nil)
   ·rw [upT,if_neg hc] at hst
    apply Y1;refine Wq Qz.cmpT ?_;apply Y0;apply AWp.seq;refine Ct ?_;apply Ys;apply AWp.seq;apply AWp.block;apply Y1;refine Wq Qz.indexN ?_;refine Wq Qz.loadEf ?_;refine AWs.al (tab_of rfl) rfl rfl rfl rfl rfl rfl ?_;refine Sf ?_;apply Y0;apply Y1;refine Wm ?_;refine Wq Qz.fldP ?_;refine Wq Qz.ldD ?_;refine Wq Qz.fldP ?_;refine Wq Qz.ldD ?_;refine Wq (Qz.call (oCmp_abs R (tAt P k).m (leadF R s (P.take k)).m hR hin hin')) ?_;refine Wq Qz.cmpF ?_;apply Y0;refine Cf ?_;apply AWp.skip;apply ABlock.normal;apply Yn;apply AWp.region;refine Wq Qz.succ ?_;refine Wm ?_;apply AWl.nil
    refine ALoop.next (P.length - (k+1)) (by omega) ⟨k+1,by omega,rfl,rfl⟩ ?_
    exact AS.le_of (by refine Yd ?_;refine Yp ?_;refine Yp ?_;refine Yd ?_;refine Yd ?_;refine Yd ?_;exact FrLe.nil) (by apply Yv;(refine HpLe.cons (OwLe.varD (by rw [hst] <;> rfl)) ?_);exact HpLe.nil)
  ·obtain rfl : k = P.length := by omega
   apply Y1;refine Wq Qz.cmpF ?_;apply Y0;apply AWp.seq;refine Cf ?_;apply AWp.exit;apply AThen.exit;apply ALoop.exit;apply ABlock.hit;apply Yn;apply Y1;refine Wq Qz.ldD ?_;refine Sf ?_;refine Wa ?_;apply Y0;apply AWp.ret
   exact Fin.ret (Rets.of2 (ResV.cell rfl rfl (tab_of rfl) rfl rfl rfl) (ResV.tmp rfl rfl) (D.le.tup2 (D.le.of_eq (by rw [List.take_length];rfl)) (D.le.refl _)))
def intOk (b : Bool) (l:List Nat):Bool:=if l.length = 0 then !b else (((l.getD (l.length - 1) 0:Nat):Int) != 0)
theorem iValid_abs (b : Bool) (l:List Nat) (hn:l.length≤1000000000):Abs Tryz.prog 123 [agD [ex (.bool b),wD l]] (ex (.bool (intOk b l))):=by
 refine Ab Tryz.func123 fun s0=>?_
 rw [Tryz.ntmps123]
 apply Y1;refine AWs.bx (ao rfl) rfl rfl rfl rfl ?_;refine Wa ?_;apply Y0;apply Y1;refine Wq Qz.fldP ?_;refine Wq Qz.ldD1 ?_;refine Wq Qz.lenW ?_;refine Wa ?_;apply Y0;apply AWp.seq;apply Y1;refine Wm ?_;refine Wq Qz.cmp ?_;apply Y0
 by_cases h0:l.length = 0
 ·refine AWp.condEqT (ao rfl) (decide_eq_true (by omega)) ?_; apply AWp.seq; apply AWp.region; refine Wq Qz.fldP ?_; refine Wq Qz.ldD1 ?_; refine Wq Qz.not ?_; refine Wa ?_; apply AWl.nil; apply Yn; apply AWp.ret; apply AThen.ret
  exact Fin.ret (Rets.of1 (ResV.tmp rfl rfl) (D.le.of_eq (by rw [intOk,if_pos h0])))
 ·refine AWp.condEqF (ao rfl) (decide_eq_false (by omega)) ?_; apply AWp.skip; apply Yn; apply AWp.seq; apply AWp.region; refine Wq Qz.fldP ?_; refine Wq Qz.ldD1 ?_; refine Wm ?_; refine Wq Qz.pred ?_; refine Wq Qz.indexW ?_; refine Wq Qz.ldE1 ?_; refine Wq Qz.cmp ?_; refine Wa ?_; apply AWl.nil; apply Yn; apply AWp.ret
  exact Fin.ret (Rets.of1 (ResV.tmp rfl rfl) (D.le.of_eq (by rw [intOk,if_neg h0])))
theorem trimW_last : ∀ {l:List Nat},l ≠ []→l.getD (l.length - 1) 0 ≠ 0→trimW l = l
 | [],h,_=>absurd rfl h
 | [x],_,h=>by
  have h:x ≠ 0:=h
  simp [trimW,h]
 | x :: y :: l,_,h=>by
  have h':(y :: l).getD ((y :: l).length - 1) 0 ≠ 0:=by
   have e:(x :: y :: l).getD ((x :: y :: l).length - 1) 0 = (y :: l).getD ((y :: l).length - 1) 0:=by simp
   rwa [e] at h
  have ih:=trimW_last (l:=y :: l) (by simp) h'
  rw [trimW,ih]
theorem intOk_int {b : Bool} {l:List Nat} (hs:Small l) (h:intOk b l = true):∃ z:Int,b = decide (z<0)∧l = digs z.natAbs:=by
 unfold intOk at h
 split at h
 ·rename_i h0
  obtain rfl:=List.eq_nil_of_length_eq_zero h0
  exact ⟨0,by simpa using h,by simp [digs_zero]⟩
 ·rename_i h0
  have h1:l ≠ []:=fun e=>h0 (by rw [e];rfl)
  have h2:l.getD (l.length - 1) 0 ≠ 0:=fun e=>by rw [e] at h;simp at h
  have h3:l = digs (val l):=by rw [← trimW_eq_digs hs,trimW_last h1 h2]
  have h4:val l ≠ 0:=fun e=>by rw [e,digs_zero] at h3;exact h1 h3
  cases b with
  | true=>exact ⟨-(val l:Int),by simp;omega,by simpa using h3⟩
  | false=>exact ⟨(val l:Int),by simp,by simpa using h3⟩
theorem int_intOk (z : Int):intOk (decide (z<0)) (digs z.natAbs) = true:=by
 unfold intOk
 split
 ·rename_i h
  have:=digs_length_zero.1 h
  have:z = 0:=by omega
  subst this
  rfl
 ·rename_i h
  have hd:(digs z.natAbs).getD ((digs z.natAbs).length - 1) 0 ≠ 0:=by
   have key:∀ n,n ≠ 0→(digs n).getD ((digs n).length - 1) 0 ≠ 0:=by
    intro n
    induction n using Nat.strongRecOn with
    | _ n ih =>
     intro hn
     rw [digs_pos hn]
     by_cases h0:n / BB = 0
     ·rw [h0,digs_zero]
      have:n % BB = n:=Nat.mod_eq_of_lt (by have:=Nat.div_eq_zero_iff.1 h0;rcases this with h | h;exact absurd h (by decide);exact h)
      simpa [this] using hn
     ·have := ih (n / BB) (Nat.div_lt_self (Nat.pos_of_ne_zero hn) (by decide)) h0
      have hne:(digs (n / BB)).length ≠ 0:=fun e=>h0 (digs_length_zero.1 e)
      obtain ⟨m,hm⟩:∃ m,(digs (n / BB)).length = m+1:=⟨(digs (n / BB)).length - 1,by omega⟩
      rw [hm] at this
      simp only [List.length_cons,hm,Nat.add_sub_cancel,List.getD_cons_succ] at this ⊢
      exact this
   exact key _ fun e=>h (digs_length_zero.2 e)
  simp only [bne_iff_ne,ne_eq]
  omega
def QOk (b : Bool) (l:List Nat) (b':Bool) (l':List Nat):Prop:=∃ q:Rat,b = decide (q.num<0)∧l = digs q.num.natAbs∧b' = decide ((q.den:Int)<0)∧l' = digs (q.den:Int).natAbs
theorem int_inj {x y:Int} (h:decide (x<0) = decide (y<0)) (h':digs x.natAbs = digs y.natAbs):x = y:=by
 have h1:x.natAbs = y.natAbs:=by rw [← val_digs x.natAbs,h',val_digs]
 have h2:(x<0)↔(y<0):=by simpa using h
 omega
theorem QOk_int (x y:Int):QOk (decide (x<0)) (digs x.natAbs) (decide (y<0)) (digs y.natAbs)↔0<y∧Nat.gcd x.natAbs y.natAbs = 1:=by
 constructor
 ·rintro ⟨q,h1,h2,h3,h4⟩
  have e1:=int_inj h1 h2
  have e2:=int_inj h3 h4
  subst e1;subst e2
  exact ⟨by have:=q.den_pos;omega,q.reduced⟩
 ·rintro ⟨h1,h2⟩
  refine ⟨⟨x,y.natAbs,by omega,h2⟩,rfl,rfl,?_,?_⟩
  ·show decide (y<0) = decide (((y.natAbs:Nat):Int)<0)
   rw [decide_eq_false (show ¬ y<0 by omega),decide_eq_false (by omega)]
  ·show digs y.natAbs = digs ((y.natAbs:Nat):Int).natAbs
   rfl
theorem QOk_ok {b : Bool} {l:List Nat} {b':Bool} {l':List Nat} (h:QOk b l b' l'):intOk b l = true∧intOk b' l' = true:=by
 obtain ⟨q,rfl,rfl,rfl,rfl⟩:=h
 exact ⟨int_intOk _,int_intOk _⟩
def rawC (b : Bool) (l:List Nat) (b':Bool) (l':List Nat):List D:=[ex (.bool b),wD l,ex (.bool b'),wD l']
open Classical in
theorem rValid_abs (b : Bool) (l:List Nat) (b':Bool) (l':List Nat) (hs:Small l) (hs':Small l') (hn:l.length≤1000000000) (hn':l'.length≤1000000000):Abs Tryz.prog 67 [agD (rawC b l b' l')] (ex (.bool (decide (QOk b l b' l')))):=by
 have c1:=iValid_abs b l hn
 have c2:=iValid_abs b' l' hn'
 cases h1:intOk b l with
 | false =>
  have hq:¬ QOk b l b' l':=fun h=>by rw [(QOk_ok h).1] at h1;cases h1
  rw [h1] at c1
  rw [decide_eq_false hq]
  refine Ab Tryz.func67 fun s0=>?_
  rw [Tryz.ntmps67]
  apply Y1;refine AWs.bx (ao rfl) rfl rfl rfl rfl ?_;refine Wa ?_;apply Y0;apply AWp.seq;apply Y1;refine Wq Qz.fldP ?_;refine Wq Qz.ldD ?_;refine Wq (Qz.call (c1)) ?_;refine Wq Qz.not ?_;refine Wm ?_;refine Ws ?_;refine Ws ?_;refine Ws ?_;refine Ws ?_;refine Wq Qz.pickT ?_;refine Wm ?_;refine Ws ?_;refine Ws ?_;refine Ws ?_;refine Ws ?_;refine Wq Qz.pickT ?_;apply Y0;refine Ct ?_;apply Y1;refine Wa ?_;apply Y0;apply AWp.ret;apply AThen.ret
  exact Yf
 | true =>
  rw [h1] at c1
  cases h2:intOk b' l' with
  | false =>
   have hq:¬ QOk b l b' l':=fun h=>by rw [(QOk_ok h).2] at h2;cases h2
   rw [h2] at c2
   rw [decide_eq_false hq]
   refine Ab Tryz.func67 fun s0=>?_
   rw [Tryz.ntmps67]
   apply Y1;refine AWs.bx (ao rfl) rfl rfl rfl rfl ?_;refine Wa ?_;apply Y0;apply AWp.seq;apply Y1;refine Wq Qz.fldP ?_;refine Wq Qz.ldD ?_;refine Wq (Qz.call (c1)) ?_;refine Wq Qz.not ?_;refine Wm ?_;refine Wg Qz.fldP ?_;refine Wg Qz.ldD ?_;refine Wg (Qz.call (c2)) ?_;refine Wg Qz.not ?_;refine Wq Qz.pickF ?_;refine Wm ?_;refine Ws ?_;refine Ws ?_;refine Ws ?_;refine Ws ?_;refine Wq Qz.pickT ?_;apply Y0;refine Ct ?_;apply Y1;refine Wa ?_;apply Y0;apply AWp.ret;apply AThen.ret
   exact Yf
  | true =>
   rw [h2] at c2
   obtain ⟨x,rfl,rfl⟩:=intOk_int hs h1
   obtain ⟨y,rfl,rfl⟩:=intOk_int hs' h2
   by_cases hy:0<y
   ·have hsg:y.sign = 1:=Int.sign_eq_one_of_pos hy
    have c3:=isOne_abs y
    by_cases hy1:y = 1
    ·rw [decide_eq_true hy1] at c3
     rw [decide_eq_true ((QOk_int x y).2 ⟨hy,by subst hy1;exact Nat.gcd_one_right _⟩)]
     refine Ab Tryz.func67 fun s0=>?_
     rw [Tryz.ntmps67]
     apply Y1;refine AWs.bx (ao rfl) rfl rfl rfl rfl ?_;refine Wa ?_;apply Y0;apply AWp.seq;apply Y1;refine Wq Qz.fldP ?_;refine Wq Qz.ldD ?_;refine Wq (Qz.call (c1)) ?_;refine Wq Qz.not ?_;refine Wm ?_;refine Wg Qz.fldP ?_;refine Wg Qz.ldD ?_;refine Wg (Qz.call (c2)) ?_;refine Wg Qz.not ?_;refine Wq Qz.pickF ?_;refine Wm ?_;refine Wg Qz.fldP ?_;refine Wg Qz.ldD ?_;refine Wg (Qz.call (sgn_abs y)) ?_;refine Wg Qz.cmpF ?_;refine Wq Qz.pickF ?_;apply Y0;refine Cf ?_;apply Ys;apply Y1;refine Wq Qz.fldP ?_;refine Wq Qz.ldD ?_;refine Wq (Qz.call (c3)) ?_;refine Wm ?_;refine Ws ?_;refine Ws ?_;refine Ws ?_;refine Ws ?_;refine Ws ?_;refine Ws ?_;refine Wq Qz.pickT ?_;refine Wa ?_;apply Y0;apply AWp.ret
     exact Yf
    ·rw [decide_eq_false hy1] at c3
     have hg:decide (QOk (decide (x<0)) (digs x.natAbs) (decide (y<0)) (digs y.natAbs)) = decide (((Nat.gcd x.natAbs y.natAbs:Nat):Int) = 1):=by
      refine decide_eq_decide.2 ((QOk_int x y).trans ⟨fun h=>by omega,fun h=>⟨hy,by omega⟩⟩)
     rw [hg]
     refine Ab Tryz.func67 fun s0=>?_
     rw [Tryz.ntmps67]
     apply Y1;refine AWs.bx (ao rfl) rfl rfl rfl rfl ?_;refine Wa ?_;apply Y0;apply AWp.seq;apply Y1;refine Wq Qz.fldP ?_;refine Wq Qz.ldD ?_;refine Wq (Qz.call (c1)) ?_;refine Wq Qz.not ?_;refine Wm ?_;refine Wg Qz.fldP ?_;refine Wg Qz.ldD ?_;refine Wg (Qz.call (c2)) ?_;refine Wg Qz.not ?_;refine Wq Qz.pickF ?_;refine Wm ?_;refine Wg Qz.fldP ?_;refine Wg Qz.ldD ?_;refine Wg (Qz.call (sgn_abs y)) ?_;refine Wg Qz.cmpF ?_;refine Wq Qz.pickF ?_;apply Y0;refine Cf ?_;apply Ys;apply Y1;refine Wq Qz.fldP ?_;refine Wq Qz.ldD ?_;refine Wq (Qz.call (c3)) ?_;refine Wm ?_;refine Wg Qz.fldP ?_;refine Wg Qz.ldD ?_;refine Wg Qz.fldP ?_;refine Wg Qz.ldD ?_;refine Wg (Qz.call (gcd_abs x y (by omega) (by omega))) ?_;refine Wg (Qz.call (isOne_abs (Nat.gcd x.natAbs y.natAbs:Nat))) ?_;refine Wq Qz.pickF ?_;refine Wa ?_;apply Y0;apply AWp.ret
     exact Yf
   ·have hsg : y.sign ≤ 0 := Int.sign_nonpos_iff.2 (by omega)
    rw [decide_eq_false fun h=>hy ((QOk_int x y).1 h).1]
    refine Ab Tryz.func67 fun s0=>?_
    rw [Tryz.ntmps67]
    apply Y1;refine AWs.bx (ao rfl) rfl rfl rfl rfl ?_;refine Wa ?_;apply Y0;apply AWp.seq;apply Y1;refine Wq Qz.fldP ?_;refine Wq Qz.ldD ?_;refine Wq (Qz.call (c1)) ?_;refine Wq Qz.not ?_;refine Wm ?_;refine Wg Qz.fldP ?_;refine Wg Qz.ldD ?_;refine Wg (Qz.call (c2)) ?_;refine Wg Qz.not ?_;refine Wq Qz.pickF ?_;refine Wm ?_;refine Wg Qz.fldP ?_;refine Wg Qz.ldD ?_;refine Wg (Qz.call (sgn_abs y)) ?_;refine Wg Qz.cmpT ?_;refine Wq Qz.pickF ?_;apply Y0;refine Ct ?_;apply Y1;refine Wa ?_;apply Y0;apply AWp.ret;apply AThen.ret
    exact Yf
end Go.Proofs.YteicdddphdomkaaGreat
