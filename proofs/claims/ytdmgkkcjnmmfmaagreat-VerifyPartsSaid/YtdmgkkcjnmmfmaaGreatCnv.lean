import Derived.Test.YtdmgkkcjnmmfmaaGreatQuFn
import Derived.Test.YtdmgkkcjnmmfmaaGreatLiv
namespace Go.Ab.F
open Go Go.Ab
set_option linter.all false
set_option linter.unusedSimpArgs false
attribute [local congr] BI D1 Dy D2 Bu D3 Dz Aw Av
def Keeps (lo:Nat)(g:Heap)(P:Heap→Prop):Prop:=∀ g',g.next≤g'.next→(∀ j,lo≤j→j<g.next→g'.get j=g.get j)→P g'
theorem Keeps.mono {lo lo':Nat}{g g':Heap}{P:Heap→Prop}(H:Keeps lo g P)(hl:lo'≤lo)(hn:g.next≤g'.next)(hg:∀ j,lo≤j→j<g.next→g'.get j=g.get j):Keeps lo' g' P:=fun g'' n'' e''=>
 H g'' (Nat.le_trans hn n'') fun j h1 h2=>(e'' j (Nat.le_trans hl h1) (Nat.lt_of_lt_of_le h2 hn)).trans (hg j h1 h2)
set_option linter.unusedSimpArgs false
attribute [local congr] BI D1 Dy D2 Bu D3 Dz Aw Av
theorem M5 {sz:Nat}:∀ {l:List (List AV)},(∀ r∈l,r.length=sz)→∀ (i:Nat) r,l[i]?=some r→span l.flatten (i*sz) sz=some r
 | [],_,i,r,h=>by simp at h
 | a::l,H,i,r,h=>by
  have ha:=H a (List.mem_cons_self ..)
  have hr:=H r (List.mem_of_getElem? h)
  cases i with
  | zero=>
   simp at h;subst h
   rw [List.flatten_cons,Nat.zero_mul,Bi _ _ _ (by simp;omega),List.drop_zero,N5 hr.symm]
  | succ i=>
   have h3:=M5 (fun r hr=>H r (List.mem_cons_of_mem _ hr)) i r (by simpa using h)
   have hle:=Gf h3
   rw [Bi _ _ _ hle] at h3
   rw [List.flatten_cons,Bi _ _ _ (by rw [List.length_append,Nat.succ_mul];omega),show(i+1)*sz=a.length+i*sz by rw [Nat.succ_mul];omega,← List.drop_drop,List.drop_left]
   exact h3
theorem appAt {g:Heap}{b:Option Nat}{sz n bytes c:Nat}{q:AV}{cs t:List AV}(H:SlB g b sz q cs n)(hc:g.get c=some (.cells true t))(ht:t.length=sz)(hs:t.all scalar=true)
  (h0:0<sz) (hn:(n+1)*bytes≤2 ^ 47) :
  ∃ v' g',appendA g sz bytes q (.sl (some (c,0)) 1 (.ex 1))=some (v',g')∧SlB g' (some g.next) sz v' (cs++t) (n+1)∧Same b.toList g g'∧g'.next=g.next+1:=by
 have hld:loadN g (c,0) (1*sz)=some t:=by
  simp only [loadN,hc,Cc]
  rw [Bi _ _ _ (by rw [ht];omega),Nat.one_mul,← ht,List.drop_zero,List.take_length]
 cases b with
 | none=>
  have e:q = .sl none 0 (.ex 0):=H.eq
  have hn0:=H.nil rfl
  subst hn0
  have hcs:cs = []:=by have:=H.len;simpa using this
  subst hcs
  refine⟨.sl (some (g.next,0)) 1 (.un sz),g.new (.cells true t),?_,⟨by simpa using ht,by simpa using hs,rfl,(fun h=>by cases h),fun i hi=>?_⟩,Same.new _ _,rfl⟩
  ·rw [e]
   simp only [appendA,countA,addedA,hld,Option.bind_some]
   rw [if_neg (by omega),if_pos (by omega)]
   simp only [if_true,Option.bind_some,List.nil_append,hs]
  ·cases hi
   exact⟨Nat.lt_succ_self _,by rw [List.nil_append];exact Am,by omega⟩
 | some i=>
  have e:q = .sl (some (i,0)) n (.un sz):=H.eq
  obtain⟨b1,b2,b3⟩:=H.blk i rfl
  have hl:=H.len
  have hmul:(n+1)*sz=n*sz+sz:=by rw [Nat.succ_mul]
  refine⟨.sl (some (g.next,0)) (n+1) (.un sz),(g.put i none).new (.cells true (cs++t)),?_,⟨by rw [List.length_append,ht,hl,hmul],by rw [List.all_append,H.sc,hs];rfl,rfl,(fun h=>by cases h),fun j hj=>?_⟩,?_,rfl⟩
  ·rw [e]
   simp only [appendA,countA,addedA,hld,Option.bind_some,ne_eq,not_true_eq_false,if_false,b2]
   rw [if_neg (by omega),if_pos hn,if_neg (by omega),if_pos (by omega)]
   simp only [hs,if_true,List.drop_zero]
  ·cases hj
   exact⟨Nat.lt_succ_self _,by have:=Am (h:=g.put i none) (b:=.cells true (cs++t));simpa using this,by omega⟩
  ·exact(Same.put _ _ _).sub (by simp) |>.trans ((Same.new _ _).sub (by simp))
structure RowsIn (g0 g:Heap)(p k sz:Nat)(vs:List AV)(rows:List (List AV))(v:AV)(b:Option Nat):Prop where
 same:Same [p] g0 g
 plt:p<g0.next
 klt:k<vs.length
 at_:g.get p=some (.cells true (vs.set k v))
 sl:SlB g b sz v rows.flatten rows.length
 new:∀ j,b=some j→g0.next≤j
 len:∀ r∈rows,r.length=sz
theorem RowsIn.ld {g0 g:Heap}{p k sz:Nat}{vs:List AV}{rows:List (List AV)}{v:AV}{b:Option Nat}(H:RowsIn g0 g p k sz vs rows v b){g':Heap}(s:Same [] g g'):ldS g' (.ptr (some (p,0+k)))=some v:=by
 have hp:p<g.next:=Nat.lt_of_lt_of_le H.plt H.same.next
 rw [Nat.zero_add,Ai (by rw [s.get p hp (by simp)];exact H.at_)]
 simp [H.klt]
theorem _root_.Go.Ab.SlB.scv {g:Heap}{b:Option Nat}{sz n:Nat}{v:AV}{cs:List AV}(H:SlB g b sz v cs n):scalar v=true:=by
 rw [H.eq];cases b<;>rfl
theorem RowsIn.step {g0 g g2:Heap}{p k sz bytes c:Nat}{vs row:List AV}{rows:List (List AV)}{v:AV}{b:Option Nat}(H:RowsIn g0 g p k sz vs rows v b)(s:Same [] g g2)(hc:g2.get c=some (.cells true row))(h1:g.next≤c)
  (hr:row.length=sz) (hs:row.all scalar=true) (h0:0<sz) (hn:(rows.length+1)*bytes≤2 ^ 47) :
  ∃ v' g3 g4,appendA g2 sz bytes v (.sl (some (c,0)) 1 (.ex 1))=some (v',g3)∧stP 1 g3 (.ptr (some (p,0+k))) v'=some (.bot,g4)∧RowsIn g0 g4 p k sz vs (rows ++ [row]) v' (some g2.next)∧g4.next=g2.next+1∧(∀ j,j<g2.next→j≠p→b≠some j→g4.get j=g2.get j):=by
 obtain⟨v',g3,e3,S3,s3,n3⟩:=appAt (H.sl.same s (by simp)) hc hr hs h0 hn
 have hp:p<g.next:=Nat.lt_of_lt_of_le H.plt H.same.next
 have hp2:p<g2.next:=Nat.lt_of_lt_of_le hp s.next
 have hbp:b≠some p:=fun h=>by have:=H.new p h;have:=H.plt;omega
 have hp3:g3.get p=some (.cells true (vs.set k v)):=by
  rw [s3.get p hp2 (by cases b<;>simp at hbp ⊢;omega),s.get p hp (by simp)];exact H.at_
 refine⟨v',g3,g3.put p (some (.cells true (vs.set k v'))),e3,?_,⟨?_,H.plt,H.klt,An,?_,fun j hj=>?_,?_⟩,n3,fun j hj hjp hjb=>?_⟩
 ·rw [Cl hp3 (by simpa using H.klt) S3.scv];simp
 ·refine⟨by simp only [Heap.next_put];have:=H.same.next;have:=s.next;omega,fun j hj hn=>?_⟩
  simp at hn
  have hjg:j<g.next:=Nat.lt_of_lt_of_le hj H.same.next
  rw [Bd hn,s3.get j (Nat.lt_of_lt_of_le hjg s.next) (by cases hb:b with
   | none=>simp
   | some i=>simp;have:=H.new i hb;omega),s.get j hjg (by simp),H.same.get j hj (by simpa using hn)]
 ·have:=S3.same (S:=[p]) (Same.put g3 p (some (.cells true (vs.set k v')))) (fun i hi=>by cases hi;simp;omega)
  simpa using this
 ·cases hj;have:=H.same.next;have:=s.next;omega
 ·intro r hr';simp only [List.mem_append,List.mem_singleton] at hr'
  rcases hr' with h | rfl
  ·exact H.len r h
  ·exact hr
 ·rw [Bd hjp,s3.get j hj (by cases hb:b with
   | none=>simp
   | some i=>simp;rintro rfl;exact hjb hb)]
theorem RowsIn.mt {g:Heap}{p k sz:Nat}{vs:List AV}(hp:p<g.next)(hg:g.get p=some (.cells true vs))(hk:vs[k]?=some (.sl none 0 (.ex 0))):RowsIn g g p k sz vs [] (.sl none 0 (.ex 0)) none:=by
 obtain⟨h1,h2⟩:=List.getElem?_eq_some_iff.1 hk
 refine⟨Same.refl _ _,hp,h1,?_,SlB.mt,(fun j h=>by cases h),by simp⟩
 rw [← h2,List.set_getElem_self];exact hg
set_option linter.unusedSimpArgs false
attribute [local congr] BI D1 Dy D2 Bu D3 Dz Aw Av
set_option linter.unusedSimpArgs false
attribute [local congr] BI D1 Dy D2 Bu D3 Dz Aw Av
set_option linter.unusedSimpArgs false
attribute [local congr] BI D1 Dy D2 Bu D3 Dz Aw Av
set_option linter.unusedSimpArgs false
attribute [local congr] BI D1 Dy D2 Bu D3 Dz Aw Av
set_option linter.unusedSimpArgs false
attribute [local congr] BI D1 Dy D2 Bu D3 Dz Aw Av
set_option linter.unusedSimpArgs false
attribute [local congr] BI D1 Dy D2 Bu D3 Dz Aw Av
set_option linter.unusedSimpArgs false
attribute [local congr] BI D1 Dy D2 Bu D3 Dz Aw Av
set_option linter.unusedSimpArgs false
attribute [local congr] BI D1 Dy D2 Bu D3 Dz Aw Av
set_option linter.unusedSimpArgs false
attribute [local congr] BI D1 Dy D2 Bu D3 Dz Aw Av
end Go.Ab.F
