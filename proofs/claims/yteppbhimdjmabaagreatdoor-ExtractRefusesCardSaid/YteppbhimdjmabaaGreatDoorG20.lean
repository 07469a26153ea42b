/- A part. -/
import Derived.Test.YteppbhimdjmabaaGreatDoorG17
set_option linter.all false
open _root_.Go renaming Value->aC
namespace Go.Proofs.YteppbhimdjmabaaGreatDoor
open Go
def B3v(off:Nat)(l:List aC):∀(k:Nat) (cs:List aC),off+k+l.length<=cs.length->
 (l.zipIdx k).foldl (fun(a:Array aC) (x:aC×Nat)=>a.setIfInBounds (off+x.2) x.1) cs.toArray=(cs.take (off+k)++l++cs.drop (off+k+l.length)).toArray:=by
 induction l with
 |nil=>simp_all
 |cons v l ih=>
  intro k cs h;rw[List.zipIdx_cons,List.foldl_cons,List.setIfInBounds_toArray,ih (k+1) _ gz0];congr 1
  have b:(cs.set (off+k) v).take (off+(k+1))=cs.take (off+k)++[v]:=by
   rw[<- Nat.add_assoc,List.take_succ_eq_append_getElem gz0,List.take_set_of_le o];simp
  have c:(cs.set (off+k) v).drop (off+(k+1)+l.length)=cs.drop (off+k+(l.length+1)):=by
   rw[List.drop_set_of_lt o];grind
  simp_all
def C1l{size:Nat}(vs:List aC):∀(k:Nat) (cs:List aC),(∀v∈vs,v.cells.size=size)->(k+vs.length)*size<=cs.length->
 Instr.fill (fun i=>some (i*size,size)) cs.toArray ((List.range' k vs.length).zip vs)=some (cs.take (k*size)++vs.flatMap (fun v=>v.cells.toList)++cs.drop ((k+vs.length)*size)).toArray:=by
 induction vs with
 |nil=>intro k cs _ h;simp[Instr.fill]
 |cons v vs ih=>
  intro k cs a h;have j:=a v (by simp);simp only[List.length_cons]at h;have d:(k+(vs.length+1))*size=k*size+size+vs.length*size:=gz0;have c:v.cells.toList.length=size:=o;rw[List.length_cons,List.range'_succ,List.zip_cons_cons];unfold Instr.fill;simp only
  have f:v.cells.zipIdx.foldl (fun cs (x:aC×Nat)=>cs.setIfInBounds (k*size+x.2) x.1) cs.toArray=(cs.take (k*size)++v.cells.toList++cs.drop (k*size+size)).toArray:=by
   have:=B3v (k*size) v.cells.toList 0 cs o;rw[c]at this;rw[<- Array.foldl_toList,Array.toList_zipIdx];omega
  rw[f,ih (k+1) _ (fun u g=>a u (by simp[g])) gz0];congr 2;have e:(k+1)*size=(cs.take (k*size)++v.cells.toList).length:=gz0;have b:(k+1+vs.length)*size=(cs.take (k*size)++v.cells.toList).length+vs.length*size:=gz0;rw[e,List.take_left',b,List.drop_length_add_append,List.drop_drop,List.flatMap_cons,d];·grind
  ·rfl
def Ah{P:Program}{t e:TypeId}{z:aC}{size bytes:Nat}(s:SliceT P t e z size bytes){vs:List aC}(hv:∀v∈vs,v.cells.size=size){n:Nat}(hn:n=vs.length)(hlen:n*size<=16777216){ps:Array (Nat×aC)}(hp:ps.toList=(List.range' 0 vs.length).zip vs){K:VP}{h:Heap} (x:∀b,h b=none->K (.slice (some ⟨b,0,none⟩) n n) (h.put b (.cells (vs.flatMap (fun v=>v.cells.toList)).toArray e))):wpH P (Instr.buildSlice t n ps) K h:=by refine Cv s hlen (cells:=(vs.flatMap (fun v=>v.cells.toList)).toArray) ?_ x;have hl:(H9 z.cells vs.length).toList.length=vs.length*size:=by{simp[H9,s.cells]};have:=C1l vs 0 (H9 z.cells vs.length).toList hv gz0;simp_all
