/- A part. -/
import Derived.Test.YtbgkfnjmcjfokaaGreatDoorG04
set_option linter.all false
open _root_.Array renaming eq_empty_of_size_eq_zero->aF
open _root_.Go.Instr renaming checkKey->aH
open _root_.Go renaming Program->aC,TypeId->aE,Value->aI
namespace Go.Proofs.YtbgkfnjmcjfokaaGreatDoor
open Go
def A0n{α β:Type}{P:aC}(s:Sem α)(f:α->Sem β):∀ {a:α},H2 P s=some a->H2 P (s.bind f)=H2 P (f a):=by
 induction s with
 | pure a=>intro b h;cases h;rfl
 | program k ih=>intro b h;exact ih P h
 | _=>intro b h;cases h
def D7{α β:Type}{P:aC}{s:Sem α}{f:α->Sem β}{a:α}{r:Option β}(h:H2 P s=some a)(h2:H2 P (f a)=r):H2 P (s >>= f)=r:=
 (A0n s f h).trans h2
def B9l{α:Type}{P:aC}(s:Sem α):∀ {a:α} {K:α->Heap->Prop} {h:Heap},H2 P s=some a->K a h->wpH P s K h:=by
 induction s with
 | pure a=>intro b K h e c;cases e;exact c
 | program k ih=>intro b K h e c;exact ih P e c
 | _=>intro b K h e;cases e
def Gk{α:Type}{P:aC}{r:Nat}{o:Obj}{f:Obj->Sem α}{K:α->Heap->Prop}{h:Heap}(hr:h r=some o)(ho:B89 o=true)(hk:wpH P (f o) K h):wpH P (getObj r >>= f) K h:=⟨o,hr,ho,hk⟩
def Cx{α β:Type}{P:aC}{s:Sem α}{f:α->Sem β}{a:α}{K:β->Heap->Prop}{h:Heap}(hs:H2 P s=some a)(hk:wpH P (f a) K h):wpH P (s >>= f) K h:=B22 _ _ _ _ (B9l _ hs hk)
def B53{α:Type}{P:aC}{q:Question}{f:Nat->Sem α}{K:α->Heap->Prop}{h:Heap}(h0:q.forced=true->wpH P (f 0) K h)(h1:q.forced=false->∀ t,wpH P (f (q.cut t)) K h):wpH P (choose q >>= f) K h:=by
 show if q.forced then _ else _
 split
 ·exact h0 (by assumption)
 ·rename_i a
  exact h1 (by simpa using a)
def Ag{P:aC}{t:aE}{d:TypeDesc}(h:P.underlying t=some d):H2 P (underlying t)=some d:=by
 simp [underlying,program,H2,Sem.bind,h,bind,Bind.bind,pure]
def A8y{P:aC}{t:aE}(h:(P.info? t).isSome=true):H2 P (sizeOf t)=some (P.cellsOf t):=by
 obtain ⟨i,a⟩:=Option.isSome_iff_exists.1 h
 simp [sizeOf,typeInfo,program,Program.cellsOf,a,H2,Sem.bind,bind,Bind.bind,pure]
def B39{P:aC}{β:Type}(len:Nat)(f:Nat->β->Sem (ForInStep β))(b:β)(hf:∀ i,i<len->H2 P (f i b)=some (.yield b)):H2 P (forIn (m:=Sem) [0:len] b f)=some b:=by
 simp only [Std.Legacy.Range.forIn_eq_forIn_range',Std.Legacy.Range.size,Nat.sub_zero,Nat.add_one_sub_one,Nat.div_one]
 have gen:∀ (n s:Nat),s+n<=len->H2 P (forIn (m:=Sem) (List.range' s n) b f)=some b:=by
  intro n
  induction n with
  | zero=>intro s _;rfl
  | succ n ih=>
   intro s a
   rw [List.range'_succ,List.forIn_cons]
   exact D7 (hf s o) (ih (s+1) o)
 exact gen _ 0 o
structure KeyT (P:aC) (kt et:aE) (len:Nat) (k:IntKind):Prop where
 arr:P.underlying kt=some (.array len et)
 el:P.underlying et=some (.int k)
 cells:P.cellsOf et=1
structure KeyV (len:Nat) (k:IntKind) (cs:Array aI):Prop where
 size:cs.size=len
 int:∀ i,i<len->∃ n,cs[i]? = some (.int k n)
section
variable {P:aC} {kt et:aE} {len:Nat} {k:IntKind}
def B3a{t:aE}{k:IntKind}(h:P.underlying t=some (.int k)):H2 P (isAgg t)=some false:=by
 unfold isAgg
 exact D7 (Ag h) rfl
def KeyT.part(T:KeyT P kt et len k){cs:Array aI}{i:Nat}{v:aI}(hv:cs[i]? = some v):H2 P (part et cs (i*P.cellsOf et))=some v:=by
 unfold Go.part
 refine D7 (B3a T.el) ?_
 simp [T.cells,hv,pure,H2]
def A9w{t:aE}{d:TypeDesc}(h:P.underlying t=some d):(P.info? t).isSome=true:=by
 unfold Program.underlying at h
 grind
def KeyT.check(T:KeyT P kt et len k){e:Bool}{n:Nat}{cs:Array aI}(V:KeyV len k cs):H2 P (aH e (n+2) kt (.agg cs))=some ():=by
 unfold aH
 refine D7 (Ag T.arr) ?_
 refine D7 (B39 _ _ _ fun i c=>?_) rfl
 obtain ⟨m,b⟩:=V.int i c
 refine D7 (A8y (A9w T.el)) (D7 (T.part b) (D7 (a:=()) ?_ rfl))
 unfold aH
 exact D7 (Ag T.el) rfl
def KeyT.differ(T:KeyT P kt et len k){d:Nat}{xs ys:Array aI}{a b:Int}(hl:0<len)(hx:xs[0]? = some (.int k a))(hy:ys[0]? = some (.int k b))(hab:a≠b):H2 P (Op.equalIn (d+2) kt (.agg xs) (.agg ys))=some false:=by
 unfold Op.equalIn
 refine D7 (Ag T.arr) ?_
 refine D7 (A8y (A9w T.el)) ?_
 simp only [Std.Legacy.Range.forIn_eq_forIn_range',Std.Legacy.Range.size,Nat.sub_zero,Nat.add_one_sub_one,Nat.div_one]
 obtain ⟨m,rfl⟩:∃ m,len=m+1:=⟨len-1,o⟩
 rw [List.range'_succ,List.forIn_cons]
 refine D7 (a:=(some false,())) (D7 (a:=.done (some false,())) ?_ rfl) rfl
 refine D7 (T.part hx) (D7 (T.part hy) ?_)
 refine D7 (a:=false) ?_ rfl
 unfold Op.equalIn
 refine D7 (Ag T.el) ?_
 simp [hab,pure,H2]
def KeyT.find(T:KeyT P kt et len k)(hl:0<len){cs:Array aI}{a:Int}(hx:cs[0]? = some (.int k a))(es:List MapEntry)(he:∀ e∈es,∃ ys b,e.key= .agg ys/\ys[0]? = some (.int k b)/\a≠b):H2 P (Instr.findKey kt (.agg cs) es)=some none:=by
 unfold Instr.findKey
 refine D7 (Ag T.arr) ?_
 cases es with
 | nil=>rfl
 | cons e es=>
  have:Instr.findNow (.array len et) (.agg cs) (e::es) 0=none:=by
   obtain ⟨ys,b,g,_⟩:=he e (by simp)
   simp [Instr.findNow,Instr.sameNow]
  rw [this]
  show H2 P (Instr.findAsking kt (.agg cs) (e::es))=some none
  generalize 0=i
  revert he
  generalize e::es=l
  intro he
  induction l generalizing i with
  | nil=>rfl
  | cons e es ih=>
   obtain ⟨ys,b,g,j,m⟩:=he e (by simp)
   unfold Instr.findAsking
   rw [g]
   refine D7 (a:=false) ?_ (ih (i+1) (fun e c=>he e (List.mem_cons_of_mem _ c)))
   exact T.differ (d:=Op.maxDepth-2) hl hx j m
variable {mt vt:aE} {h:Heap} {r:Nat} {es:Array MapEntry} {clock:Nat}
def A6d(T:KeyT P kt et len k)(hm:P.underlying mt=some (.map kt vt))(hz:Uw P vt=true)(hr:h r=some (.map es clock))(hl:0<len){cs:Array aI}(V:KeyV len k cs){a:Int}(hx:cs[0]? = some (.int k a))(he:∀ e∈es,∃ ys b,e.key= .agg ys/\ys[0]? = some (.int k b)/\a≠b){K:VP}(hK:K (Cl P vt) h):wpH P (Instr.lookup mt (.map (some r)) (.agg cs) false) K h:=by
 unfold Instr.lookup
 refine Cx (Ag hm) ?_
 refine Gk hr rfl ?_
 refine Cx (a:=es) rfl ?_
 refine Cx (T.check (n:=9998) V) ?_
 refine Cx (T.find hl hx es.toList (fun e c=>he e (by simpa using c))) ?_
 refine Cx (a:=Cl P vt) ?_ hK
 unfold Uw at hz
 cases hi:P.info? vt with
 | none=>rw [hi] at hz;cases hz
 | some i=>
  rw [hi] at hz
  obtain ⟨z,e⟩:=Option.isSome_iff_exists.1 hz
  simp [zeroValue,typeInfo,program,hi,H2,Sem.bind,bind,Bind.bind,pure,e,Cl]
def A5m(T:KeyT P kt et len k)(hm:P.underlying mt=some (.map kt vt))(hr:h r=some (.map es clock))(hl:0<len){cs:Array aI}(V:KeyV len k cs){a:Int}(hx:cs[0]? = some (.int k a))(he:∀ e∈es,∃ ys b,e.key= .agg ys/\ys[0]? = some (.int k b)/\a≠b){v:aI}{K:Unit->Heap->Prop}(hK:K () (h.put r (.map (es.push ⟨.agg cs,v,clock⟩) (clock+1)))):wpH P (Instr.mapUpdate mt (.map (some r)) (.agg cs) v) K h:=by
 unfold Instr.mapUpdate
 refine Cx (Ag hm) ?_
 refine Gk hr rfl ?_
 refine Cx (T.check (n:=9998) V) ?_
 refine Cx (T.find hl hx es.toList (fun e c=>he e (by simpa using c))) ?_
 exact ⟨⟨_,hr,rfl⟩,hK⟩
def B85(hm:P.underlying mt=some (.map kt vt)){t:aE}(hr:h r=some (.map es clock)){K:VP}(hK:K (.int .i64 es.size) h):wpH P (Builtin.len_ #[mt] t #[.map (some r)]) K h:=by
 unfold Builtin.len_
 refine Cx (Ag hm) ?_
 exact Gk hr rfl hK
def A8l(hm:P.underlying mt=some (.map kt vt))(hr:h r=some (.map es clock)){K:VP}(hK:∀ b,h b=none->K (.pointer (some ⟨b,0,none⟩)) (h.put b (.mapIter (some r) clock #[] clock))):wpH P (Instr.range mt (.map (some r))) K h:=by
 unfold Instr.range
 refine Cx (Ag hm) ?_
 refine Gk hr rfl ?_
 exact fun b a=>hK b a
def B3q{t:aE}{K:VP}(hK:∀ b,h b=none->K (.map (some b)) (h.put b (.map #[] 0))):wpH P (Instr.makeMap t none) K h:=by
 unfold Instr.makeMap
 exact fun b a=>hK b a
def B3k{it:Nat}{seen:Array Nat}{since last:Nat}{t:aE}(hi:h it=some (.mapIter (some r) since seen last))(hr:h r=some (.map es clock))(hb:∀ e∈es,e.born<since/\e.born<last){K:VP}
 (h0:(∀ e∈es,e.born∈seen)->K (.tuple #[.bool false]) h) (h1:∀ e∈es,e.born∉seen->K (.tuple #[.bool true,e.key,e.val]) (h.put it (.mapIter (some r) since (seen.push e.born) clock))):wpH P (Instr.next (.pointer (some ⟨it,0,none⟩)) false t) K h:=by
 unfold Instr.next
 refine Gk hi rfl ?_
 refine Gk hr rfl ?_
 have n:(!seen.isEmpty && !es.isEmpty&&es.all (fun x=>decide (x.born>=last)))=false:=by
  cases hn:es.isEmpty with
  | true=>simp
  | false=>
   have:0<es.size:=by
    rcases Nat.eq_zero_or_pos es.size with h|h
    ·have:es=#[]:=aF h
     rw [this] at hn;cases hn
    ·exact h
   have a:es.all (fun x=>decide (x.born>=last))=false:=by
    rw [Array.all_eq_false]
    refine ⟨0,this,?_⟩
    have:=(hb es[0] (by simp)).2
    simp;omega
   simp [a]
 have i:(es.filter fun e=> !seen.contains e.born).filter (fun x=>decide (x.born>=since))=#[]:=by
  rw [Array.filter_eq_empty_iff]
  intro e b
  have:=(hb e (by simp at b;exact b.1)).1
  simp;omega
 have g:(es.filter fun e=> !seen.contains e.born).filter (fun x=>decide (x.born<since))=es.filter fun e=> !seen.contains e.born:=by
  rw [Array.filter_eq_self]
  intro e b
  have:=(hb e (by simp at b;exact b.1)).1
  simp;omega
 simp only [n,i,g,Array.append_empty,Bool.false_eq_true,if_false]
 generalize hl:(es.filter fun e=> !seen.contains e.born)=left
 have d:∀ e∈left,e∈es/\e.born∉seen:=fun e b=>by
  rw [<- hl] at b;simpa using b
 cases hn:left.isEmpty with
 | true=>
  have k:left=#[]:=by simpa using hn
  subst k
  have a:∀ e∈es,e.born∈seen:=fun e b=>by
   cases hc:seen.contains e.born with
   | true=>simpa using hc
   | false=>
    have:e∈es.filter fun e=> !seen.contains e.born:=by simp [b];simpa using hc
    rw [hl] at this;simp at this
  refine B53 (fun _=>?_) (fun l=>?_)
  ·simpa [wpH,pure] using h0 a
  ·simp [Question.forced] at l
 | false=>
  have c:0<left.size:=by
   rcases Nat.eq_zero_or_pos left.size with h|h
   ·have:left=#[]:=aF h
    rw [this] at hn;cases hn
   ·exact h
  simp only [Bool.false_eq_true,if_false,Array.empty_append,Array.size_map]
  have gen:∀ j,j<left.size->wpH P (match (left.map some)[j]? with
   | some (some e)=>do
    setObj it (.mapIter (some r) since (seen.push e.born) clock)
    pure (.tuple #[.bool true,e.key,e.val])
   | some none=>pure (.tuple #[.bool false])
   | none=>stuck "Next: no such candidate") K h:=fun j m=>by
   rw [Array.getElem?_map,Array.getElem?_eq_getElem m]
   have:=d left[j] (by simp)
   exact ⟨⟨_,hi,rfl⟩,h1 _ this.1 this.2⟩
  refine B53 (fun _=>gen 0 c) (fun _ t=>gen (t%left.size) (Nat.mod_lt _ c))
end
