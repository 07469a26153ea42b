/- A part. -/
import Derived.Test.YtmbfcbbkbefgfaaGreatDoorG15
set_option linter.all false
open List renaming length_append->aE,length_cons->aG
open Nat renaming add_mul->aC,one_mul->aH
open _root_.Go.Value renaming string->aD
open _root_.Go renaming Value->aF
namespace Go.Proofs.YtmbfcbbkbefgfaaGreatDoor
open Go
def A81(off:Nat)(l:List aF):∀ (k:Nat) (cs:List aF),off+k+l.length<=cs.length->
 (l.zipIdx k).foldl (fun (a:Array aF) (x:aF × Nat)=>a.setIfInBounds (off+x.2) x.1) cs.toArray=(cs.take (off+k)++l++cs.drop (off+k+l.length)).toArray:=by
 induction l with
 | nil=>intro k cs h;simp
 | cons v l ih=>
  intro k cs h
  simp only [aG] at h
  rw [List.zipIdx_cons,List.foldl_cons,List.setIfInBounds_toArray,ih (k+1) _ (by simp;omega)]
  congr 1
  have c:(cs.set (off+k) v).take (off+(k+1))=cs.take (off+k)++[v]:=by
   rw [<- Nat.add_assoc,List.take_succ_eq_append_getElem (by simp;omega),List.take_set_of_le (by omega)]
   simp
  have b:(cs.set (off+k) v).drop (off+(k+1)+l.length)=cs.drop (off+k+(l.length+1)):=by
   rw [List.drop_set_of_lt (by omega)];congr 1;omega
  rw [c,b];simp
def B5a{size:Nat}(vs:List aF):∀ (k:Nat) (cs:List aF),(∀ v∈vs,v.cells.size=size)->(k+vs.length)*size<=cs.length->
 Instr.fill (fun i=>some (i*size,size)) cs.toArray ((List.range' k vs.length).zip vs)=some (cs.take (k*size)++vs.flatMap (fun v=>v.cells.toList)++cs.drop ((k+vs.length)*size)).toArray:=by
 induction vs with
 | nil=>intro k cs _ h;simp [Instr.fill]
 | cons v vs ih=>
  intro k cs d h
  have b:=d v (by simp)
  simp only [aG] at h
  have j:(k+(vs.length+1))*size=k*size+size+vs.length*size:=by rw [aC,aC,aH];omega
  have a:v.cells.toList.length=size:=by simp [b]
  rw [aG,List.range'_succ,List.zip_cons_cons]
  unfold Instr.fill
  simp only
  rw [iN (by simp [b];omega)]
  have e:v.cells.zipIdx.foldl (fun cs (x:aF × Nat)=>cs.setIfInBounds (k*size+x.2) x.1) cs.toArray=(cs.take (k*size)++v.cells.toList++cs.drop (k*size+size)).toArray:=by
   have:=A81 (k*size) v.cells.toList 0 cs (by rw [a];omega)
   rw [a] at this
   rw [<- Array.foldl_toList,Array.toList_zipIdx]
   simpa using this
  rw [e,ih (k+1) _ (fun u l=>d u (by simp [l])) (by simp only [aE,List.length_take,List.length_drop,a];rw [aC,aC,aH];omega)]
  congr 2
  have c:(cs.take (k*size)).length=k*size:=by rw [List.length_take];omega
  have g:(k+1)*size=(cs.take (k*size)++v.cells.toList).length:=by rw [aE,c,a,aC,aH]
  have m:(k+1+vs.length)*size=(cs.take (k*size)++v.cells.toList).length+vs.length*size:=by rw [aE,c,a,aC,aC,aH]
  rw [g,List.take_left',m,List.drop_length_add_append,List.drop_drop,List.flatMap_cons,j]
  ·simp [List.append_assoc]
  ·rfl
def Qi{P:Program}{t e:TypeId}{z:aF}{size bytes:Nat}(s:SliceT P t e z size bytes){vs:List aF}(hv:∀ v∈vs,v.cells.size=size){n:Nat}(hn:n=vs.length)(hlen:n*size<=16777216){ps:Array (Nat × aF)}(hp:ps.toList=(List.range' 0 vs.length).zip vs){K:VP}{h:Heap}
 (x:∀ b,h b=none->K (.slice (some ⟨b,0,none⟩) n n) (h.put b (.cells (vs.flatMap (fun v=>v.cells.toList)).toArray e))):wpH P (Instr.buildSlice t n ps) K h:=by
 subst hn
 refine Eg s hlen (cells:=(vs.flatMap (fun v=>v.cells.toList)).toArray) ?_ x
 rw [hp]
 have a:(F5 z.cells vs.length).toList.length=vs.length*size:=by simp [F5,s.cells]
 have:=B5a vs 0 (F5 z.cells vs.length).toList hv (by rw [a];simp)
 rw [Array.toArray_toList] at this
 rw [this]
 have c:(F5 z.cells vs.length).toList.drop ((0+vs.length)*size)=[]:=List.drop_eq_nil_of_le (by rw [a];simp)
 rw [c];simp
def Fl{P:Program}{t e:TypeId}{z:aF}{bytes:Nat}(s:SliceT P t e z 1 bytes){ls:List (List UInt8)}{n:Nat}(hn:n=ls.length)(hlen:n<=1000){ps:Array (Nat × aF)}(hp:ps.toList=(List.range' 0 (ls.map fun l=>aD (bs l)).length).zip (ls.map fun l=>aD (bs l))){K:VP}{h:Heap}
 (x:∀ b h',h.le h'->SlV h' (some ⟨b,0,none⟩) (ls.map fun l=>aD (bs l))->K (.slice (some ⟨b,0,none⟩) n n) h'):wpH P (Instr.buildSlice t n ps) K h:=by
 refine Qi s (vs:=ls.map fun l=>aD (bs l)) (fun v a=>?_) (by simpa using hn) (by omega) hp (fun b c=>x b _ (Heap.le_put _ c) ?_)
 ·obtain ⟨l,_,rfl⟩:=List.mem_map.1 a;rfl
 ·have e:∀ ls:List (List UInt8),(ls.map fun l=>aD (bs l)).flatMap (fun v=>v.cells.toList)=ls.map fun l=>aD (bs l):=by
   intro ls
   induction ls with
   | nil=>rfl
   | cons l ls ih=>rw [List.map_cons,List.flatMap_cons,ih];rfl
  rw [e]
  exact SlV.new _ b _ _ _ _ (fun i v a=>by simpa using a)
