/- A part. -/
import Derived.Test.YtmbfcbbkbefgfaaGreatDoorG19
set_option linter.all false
open List renaming length_append->aD,length_cons->aE
open Nat renaming add_mul->aC,one_mul->aF
open _root_.Go renaming Value->aG
namespace Go.Proofs.YtmbfcbbkbefgfaaGreatDoor
open Go
def B3m(off:Nat)(l:List aG):∀ (k:Nat) (cs:List aG),off+k+l.length<=cs.length->
 (l.zipIdx k).foldl (fun (a:Array aG) (x:aG × Nat)=>a.setIfInBounds (off+x.2) x.1) cs.toArray=(cs.take (off+k)++l++cs.drop (off+k+l.length)).toArray:=by
 induction l with
 | nil=>intro k cs h;simp
 | cons v l ih=>
  intro k cs h
  simp only [aE] at h
  rw [List.zipIdx_cons,List.foldl_cons,List.setIfInBounds_toArray,ih (k+1) _ (by simp;omega)]
  congr 1
  have c:(cs.set (off+k) v).take (off+(k+1))=cs.take (off+k)++[v]:=by
   rw [<- Nat.add_assoc,List.take_succ_eq_append_getElem (by simp;omega),List.take_set_of_le (by omega)]
   simp
  have b:(cs.set (off+k) v).drop (off+(k+1)+l.length)=cs.drop (off+k+(l.length+1)):=by
   rw [List.drop_set_of_lt (by omega)];congr 1;omega
  rw [c,b];simp
def C1c{size:Nat}(vs:List aG):∀ (k:Nat) (cs:List aG),(∀ v∈vs,v.cells.size=size)->(k+vs.length)*size<=cs.length->
 Instr.fill (fun i=>some (i*size,size)) cs.toArray ((List.range' k vs.length).zip vs)=some (cs.take (k*size)++vs.flatMap (fun v=>v.cells.toList)++cs.drop ((k+vs.length)*size)).toArray:=by
 induction vs with
 | nil=>intro k cs _ h;simp [Instr.fill]
 | cons v vs ih=>
  intro k cs c h
  have a:=c v (by simp)
  simp only [aE] at h
  have f:(k+(vs.length+1))*size=k*size+size+vs.length*size:=by rw [aC,aC,aF];omega
  have b:v.cells.toList.length=size:=by simp [a]
  rw [aE,List.range'_succ,List.zip_cons_cons]
  unfold Instr.fill
  simp only
  rw [iN (by simp [a];omega)]
  have g:v.cells.zipIdx.foldl (fun cs (x:aG × Nat)=>cs.setIfInBounds (k*size+x.2) x.1) cs.toArray=(cs.take (k*size)++v.cells.toList++cs.drop (k*size+size)).toArray:=by
   have:=B3m (k*size) v.cells.toList 0 cs (by rw [b];omega)
   rw [b] at this
   rw [<- Array.foldl_toList,Array.toList_zipIdx]
   simpa using this
  rw [g,ih (k+1) _ (fun u e=>c u (by simp [e])) (by simp only [aD,List.length_take,List.length_drop,b];rw [aC,aC,aF];omega)]
  congr 2
  have d:(cs.take (k*size)).length=k*size:=by rw [List.length_take];omega
  have l:(k+1)*size=(cs.take (k*size)++v.cells.toList).length:=by rw [aD,d,b,aC,aF]
  have j:(k+1+vs.length)*size=(cs.take (k*size)++v.cells.toList).length+vs.length*size:=by rw [aD,d,b,aC,aC,aF]
  rw [l,List.take_left',j,List.drop_length_add_append,List.drop_drop,List.flatMap_cons,f]
  ·simp [List.append_assoc]
  ·rfl
def Nv{P:Program}{t e:TypeId}{z:aG}{size bytes:Nat}(s:SliceT P t e z size bytes){vs:List aG}(hv:∀ v∈vs,v.cells.size=size){n:Nat}(hn:n=vs.length)(hlen:n*size<=16777216){ps:Array (Nat × aG)}(hp:ps.toList=(List.range' 0 vs.length).zip vs){K:VP}{h:Heap}
 (x:∀ b,h b=none->K (.slice (some ⟨b,0,none⟩) n n) (h.put b (.cells (vs.flatMap (fun v=>v.cells.toList)).toArray e))):wpH P (Instr.buildSlice t n ps) K h:=by
 subst hn
 refine Bw s hlen (cells:=(vs.flatMap (fun v=>v.cells.toList)).toArray) ?_ x
 rw [hp]
 have a:(F2 z.cells vs.length).toList.length=vs.length*size:=by simp [F2,s.cells]
 have:=C1c vs 0 (F2 z.cells vs.length).toList hv (by rw [a];simp)
 rw [Array.toArray_toList] at this
 rw [this]
 have c:(F2 z.cells vs.length).toList.drop ((0+vs.length)*size)=[]:=List.drop_eq_nil_of_le (by rw [a];simp)
 rw [c];simp
