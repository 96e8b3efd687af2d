import Derived.Test.YtlkhjkbepijegaaGreatDoorMar
namespace Go.Ab.F
open Go Go.Ab
set_option linter.all false
set_option linter.all false
attribute [local congr] c_bind c_cl c_mk c_lp c_clC c_gQ c_gV c_condE c_thenK
def SetM (S:List Int):List (AV × AV):=S.map fun n=>(AV.int .i64 n,AV.bool true)
theorem set_find (x:Int):∀ S:List Int,fdA (.int .i64) (.int .i64 x) (SetM S)=some (if x∈S then some (.bool true) else none)
 | []=>rfl
 | y::S=>by
  have ih:=set_find x S
  have hk:kindOk (.int .i64) (.int .i64 x)=some ():=rfl
  unfold fdA at ih ⊢
  rw [hk,Option.bind_some] at ih ⊢
  show findA (.int .i64) (.int .i64 x) ((AV.int .i64 y,AV.bool true)::SetM S)=_
  rw [findA]
  have he:eqT (.int .i64) (.int .i64 x) (.int .i64 y)=some (decide (x=y)):=rfl
  rw [he,Option.bind_some]
  by_cases h:x=y
  ·simp [h]
  ·simp only [h,decide_false,Bool.false_eq_true,if_false,ih,List.mem_cons,false_or]
theorem set_put {x:Int}:∀ {S:List Int},x∉S→ptA (.int .i64) (.int .i64 x) (.bool true) (SetM S)=some (SetM (S ++ [x]))
 | [],_=>rfl
 | y::S,h=>by
  rw [List.mem_cons,not_or] at h
  have ih:=set_put h.2
  have hk:kindOk (.int .i64) (.int .i64 x)=some ():=rfl
  unfold ptA at ih ⊢
  rw [hk,Option.bind_some] at ih ⊢
  show putMap (.int .i64) (.int .i64 x) (.bool true) ((AV.int .i64 y,AV.bool true)::SetM S)=_
  rw [putMap]
  have he:eqT (.int .i64) (.int .i64 x) (.int .i64 y)=some (decide (x=y)):=rfl
  rw [he,Option.bind_some]
  simp only [h.1,decide_false,Bool.false_eq_true,if_false,ih,Option.map_some]
  rfl
def sc (S:List Int):Nat:=cnt (fun j=>decide ((j:Int)∈S)) 32768
section
variable {T:List Shp}{a:PAr}{G S q:List Int}{x:Int}
end
set_option linter.all false
attribute [local congr] c_bind c_cl c_mk c_lp c_clC c_gQ c_gV c_condE c_thenK
theorem added_slb {g:Heap}{b:Option Nat}{v:AV}{L:List Int}(hv:SlB g b 1 v (wsC L) L.length):countA v=some L.length∧∀ g':Heap,(∀ i,b=some i→g'.get i=g.get i)→addedA g' 1 v=some (wsC L):=by
 cases b with
 | none=>
  have e:v = .sl none 0 (.ex 0):=hv.eq
  obtain rfl:L = []:=List.eq_nil_of_length_eq_zero (hv.nil rfl)
  subst e
  exact⟨rfl,fun _ _=>rfl⟩
 | some i=>
  have e:v = .sl (some (i,0)) L.length (.un 1):=hv.eq
  obtain⟨b1,b2,b3⟩:=hv.blk i rfl
  subst e
  refine⟨rfl,fun g' hg=>?_⟩
  have:loadN g' (i,0) (L.length * 1)=some (wsC L):=by
   simp only [loadN,hg i rfl,b2,spanF_eq]
   have hl:(wsC L).length=L.length * 1:=by rw [wsC_len];omega
   rw [span_some _ _ _ (by omega),List.drop_zero,← hl,List.take_length]
  simp only [addedA,this]
def Srd (h:Heap)(v:AV)(G:List Int):Prop:=(v = .sl none 0 (.ex 0)∧G = [])∨((∃ p n c,v = .sl (some p) n c)∧countA v=some G.length∧∀ g,Same [] h g→addedA g 1 v=some (wsC G))
theorem Srd.of {h:Heap}{b:Option Nat}{v:AV}{G:List Int}(H:SlB h b 1 v (wsC G) G.length):Srd h v G:=by
 cases b with
 | none=>exact .inl ⟨H.eq,List.eq_nil_of_length_eq_zero (H.nil rfl)⟩
 | some i=>
  obtain⟨h1,h2⟩:=added_slb H
  exact .inr ⟨⟨_,_,_,H.eq⟩,h1,fun g s=>h2 g fun j hj=>s.get j (H.blk j hj).1 (by simp)⟩
section
variable {h:Heap}{C:Nat→Nat}{l:PAl}{T:List Shp}{qb:Option Nat}{gq:List Int}{X:List Nat}
def Todo (g:Heap)(base:Nat)(v:AV)(q:List Int):Prop:=(q = []∧lnL v=some (.int .i64 0))∨∃ b,QuV g base b v q
theorem Todo.len {g:Heap}{base:Nat}{v:AV}{q:List Int}(H:Todo g base v q):lnL v=some (.int .i64 q.length):=by
 rcases H with⟨rfl,h⟩ | ⟨b,h⟩
 ·exact h
 ·exact h.lnL
theorem find_rng {a:PAr}(H:Wf a){x:Int}(h:a.find x≠none):64≤x∧x < 32768:=by
 obtain⟨⟨m,q⟩,hf⟩:=Option.ne_none_iff_exists'.1 h
 obtain⟨W,hl⟩:=lies_of H hf
 have:=hl.pos H
 exact⟨this.1,this.2.1⟩
end
end Go.Ab.F
