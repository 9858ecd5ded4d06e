/-
  Plain types of the program and how their values lie in cells. No condition: definitions, printed by dec.py.
-/
import Derived.Test.YtdlmgokicfoidaaDoorLX
namespace Go.LS
set_option linter.all false
set_option linter.unusedSimpArgs false
set_option linter.unusedVariables false
set_option maxRecDepth 20000

structure make_Tape where
  L:List Int
  At:Int
deriving DecidableEq
instance:Inhabited make_Tape:=⟨⟨default,default⟩⟩
structure api_File where
  Kind:Str
  Source:Int
  Number:Int
  Rows:List (List Str)
deriving DecidableEq
instance:Inhabited api_File:=⟨⟨default,default,default,default⟩⟩
def encL_encS (x:List Str):List PV:=[.sl 1 (List.map encS x)]
def enc_api_File (x:api_File):List PV:=[.val (.string (bs x.Kind)),pi x.Source,pi x.Number,.sl 1 (List.map encL_encS x.Rows)]
theorem apAt_enc_api_File_0_4 (l:List api_File) (n:Int):apAt [.val (.string (bs ([]:Str))),pi (0:Int),pi (0:Int),.sl 1 []] (List.map enc_api_File l) n.toNat 0 4=[.val (.string (bs ((ix l n).Kind))),pi ((ix l n).Source),pi ((ix l n).Number),.sl 1 (List.map encL_encS ((ix l n).Rows))]:=by
  unfold apAt ix
  by_cases h:n.toNat<l.length
  · simp [h,List.getD,enc_api_File]
  · simp [h,List.getD]; first | done | rfl | (repeat' apply And.intro) <;> rfl
theorem apAt_enc_api_File_0_4_k0 (l:List api_File):apAt [.val (.string (bs ([]:Str))),pi (0:Int),pi (0:Int),.sl 1 []] (List.map enc_api_File l) 0 0 4=[.val (.string (bs ((ix l (0:Int)).Kind))),pi ((ix l (0:Int)).Source),pi ((ix l (0:Int)).Number),.sl 1 (List.map encL_encS ((ix l (0:Int)).Rows))]:=apAt_enc_api_File_0_4 l 0
theorem apAt_enc_api_File_0_4_k1 (l:List api_File):apAt [.val (.string (bs ([]:Str))),pi (0:Int),pi (0:Int),.sl 1 []] (List.map enc_api_File l) 1 0 4=[.val (.string (bs ((ix l (1:Int)).Kind))),pi ((ix l (1:Int)).Source),pi ((ix l (1:Int)).Number),.sl 1 (List.map encL_encS ((ix l (1:Int)).Rows))]:=apAt_enc_api_File_0_4 l 1
theorem apAt_enc_api_File_0_4_k2 (l:List api_File):apAt [.val (.string (bs ([]:Str))),pi (0:Int),pi (0:Int),.sl 1 []] (List.map enc_api_File l) 2 0 4=[.val (.string (bs ((ix l (2:Int)).Kind))),pi ((ix l (2:Int)).Source),pi ((ix l (2:Int)).Number),.sl 1 (List.map encL_encS ((ix l (2:Int)).Rows))]:=apAt_enc_api_File_0_4 l 2
theorem apAt_enc_api_File_0_4_k3 (l:List api_File):apAt [.val (.string (bs ([]:Str))),pi (0:Int),pi (0:Int),.sl 1 []] (List.map enc_api_File l) 3 0 4=[.val (.string (bs ((ix l (3:Int)).Kind))),pi ((ix l (3:Int)).Source),pi ((ix l (3:Int)).Number),.sl 1 (List.map encL_encS ((ix l (3:Int)).Rows))]:=apAt_enc_api_File_0_4 l 3
theorem apAt_encB_0_1 (l:List Bool) (n:Int):apAt [.val (.bool false)] (List.map encB l) n.toNat 0 1=[.val (.bool (ix l n))]:=by
  unfold apAt ix
  by_cases h:n.toNat<l.length
  · simp [h,List.getD,encB]
  · simp [h,List.getD]; first | done | rfl | (repeat' apply And.intro) <;> rfl
theorem apAt_encB_0_1_k0 (l:List Bool):apAt [.val (.bool false)] (List.map encB l) 0 0 1=[.val (.bool (ix l (0:Int)))]:=apAt_encB_0_1 l 0
theorem apAt_encB_0_1_k1 (l:List Bool):apAt [.val (.bool false)] (List.map encB l) 1 0 1=[.val (.bool (ix l (1:Int)))]:=apAt_encB_0_1 l 1
theorem apAt_encB_0_1_k2 (l:List Bool):apAt [.val (.bool false)] (List.map encB l) 2 0 1=[.val (.bool (ix l (2:Int)))]:=apAt_encB_0_1 l 2
theorem apAt_encB_0_1_k3 (l:List Bool):apAt [.val (.bool false)] (List.map encB l) 3 0 1=[.val (.bool (ix l (3:Int)))]:=apAt_encB_0_1 l 3
theorem epAt_encI (l:List Int) (n:Int):epAt [pi (0:Int)] (List.map encI l) n.toNat=[pi (ix l n)]:=by
  unfold epAt ix
  by_cases h:n.toNat<l.length
  · simp [h,List.getD,encI]
  · simp [h,List.getD]; first | done | exact ⟨rfl,rfl⟩ | rfl | (repeat' apply And.intro) <;> rfl
theorem epAt_encI_k0 (l:List Int):epAt [pi (0:Int)] (List.map encI l) 0=[pi (ix l (0:Int))]:=epAt_encI l 0
theorem epAt_encI_k1 (l:List Int):epAt [pi (0:Int)] (List.map encI l) 1=[pi (ix l (1:Int))]:=epAt_encI l 1
theorem epAt_encI_k2 (l:List Int):epAt [pi (0:Int)] (List.map encI l) 2=[pi (ix l (2:Int))]:=epAt_encI l 2
theorem epAt_encI_k3 (l:List Int):epAt [pi (0:Int)] (List.map encI l) 3=[pi (ix l (3:Int))]:=epAt_encI l 3
theorem epAt_encL_encS (l:List (List Str)) (n:Int):epAt [.sl 1 []] (List.map encL_encS l) n.toNat=[.sl 1 (List.map encS (ix l n))]:=by
  unfold epAt ix
  by_cases h:n.toNat<l.length
  · simp [h,List.getD,encL_encS]
  · simp [h,List.getD]; first | done | exact ⟨rfl,rfl⟩ | rfl | (repeat' apply And.intro) <;> rfl
theorem epAt_encL_encS_k0 (l:List (List Str)):epAt [.sl 1 []] (List.map encL_encS l) 0=[.sl 1 (List.map encS (ix l (0:Int)))]:=epAt_encL_encS l 0
theorem epAt_encL_encS_k1 (l:List (List Str)):epAt [.sl 1 []] (List.map encL_encS l) 1=[.sl 1 (List.map encS (ix l (1:Int)))]:=epAt_encL_encS l 1
theorem epAt_encL_encS_k2 (l:List (List Str)):epAt [.sl 1 []] (List.map encL_encS l) 2=[.sl 1 (List.map encS (ix l (2:Int)))]:=epAt_encL_encS l 2
theorem epAt_encL_encS_k3 (l:List (List Str)):epAt [.sl 1 []] (List.map encL_encS l) 3=[.sl 1 (List.map encS (ix l (3:Int)))]:=epAt_encL_encS l 3
theorem epAt_encS (l:List Str) (n:Int):epAt [.val (.string (bs ([]:Str)))] (List.map encS l) n.toNat=[.val (.string (bs (ix l n)))]:=by
  unfold epAt ix
  by_cases h:n.toNat<l.length
  · simp [h,List.getD,encS]
  · simp [h,List.getD]; first | done | exact ⟨rfl,rfl⟩ | rfl | (repeat' apply And.intro) <;> rfl
theorem epAt_encS_k0 (l:List Str):epAt [.val (.string (bs ([]:Str)))] (List.map encS l) 0=[.val (.string (bs (ix l (0:Int))))]:=epAt_encS l 0
theorem epAt_encS_k1 (l:List Str):epAt [.val (.string (bs ([]:Str)))] (List.map encS l) 1=[.val (.string (bs (ix l (1:Int))))]:=epAt_encS l 1
theorem epAt_encS_k2 (l:List Str):epAt [.val (.string (bs ([]:Str)))] (List.map encS l) 2=[.val (.string (bs (ix l (2:Int))))]:=epAt_encS l 2
theorem epAt_encS_k3 (l:List Str):epAt [.val (.string (bs ([]:Str)))] (List.map encS l) 3=[.val (.string (bs (ix l (3:Int))))]:=epAt_encS l 3
theorem epLit_encS_4 (a0 a1 a2 a3:Str) (n:Int):epAt [.val (.string (bs ([]:Str)))] [[.val (.string (bs a0))],[.val (.string (bs a1))],[.val (.string (bs a2))],[.val (.string (bs a3))]] n.toNat=[.val (.string (bs (ix [a0,a1,a2,a3] n)))]:=epAt_encS [a0,a1,a2,a3] n
theorem setC_encB_0_1 (l:List Bool) (n:Int) (a0:Bool):setC (List.map encB l) n.toNat 0 [.val (.bool a0)]=List.map encB (setI l n a0):=by
  unfold setC setI; (try unfold ix)
  by_cases h:n.toNat<l.length
  · simp [h,List.getD,splice,List.map_set,encB]
  · rw [List.set_eq_of_length_le (by simp; omega),List.set_eq_of_length_le (by omega)]
theorem setC_encB_0_1_k0 (l:List Bool) (a0:Bool):setC (List.map encB l) 0 0 [.val (.bool a0)]=List.map encB (setI l (0:Int) a0):=setC_encB_0_1 l 0 a0
theorem setC_encB_0_1_k1 (l:List Bool) (a0:Bool):setC (List.map encB l) 1 0 [.val (.bool a0)]=List.map encB (setI l (1:Int) a0):=setC_encB_0_1 l 1 a0
theorem setC_encB_0_1_k2 (l:List Bool) (a0:Bool):setC (List.map encB l) 2 0 [.val (.bool a0)]=List.map encB (setI l (2:Int) a0):=setC_encB_0_1 l 2 a0
theorem setC_encB_0_1_k3 (l:List Bool) (a0:Bool):setC (List.map encB l) 3 0 [.val (.bool a0)]=List.map encB (setI l (3:Int) a0):=setC_encB_0_1 l 3 a0
theorem bs_extract (s:Str) (a b:Nat):(bs s).extract a b=bs ((s.take b).drop a):=by
  apply ByteArray.ext
  simp [bs,List.drop_take]
attribute [go_sem] bs_extract
theorem strOf_lit1 (x:Int):bs [byteOf1 [.val (.int .u8 x)]]=bs (strOf [x]):=rfl
theorem isByte_lit (n:Int):isByte [.val (.int .u8 n)]=True:=by simp [isByte]
attribute [go_sem] strOf_lit1 isByte_lit
theorem epAt_c0 (z x0:List PV) (xs:List (List PV)):epAt z (x0 :: xs) 0=x0:=rfl
attribute [go_sem] epAt_c0
theorem epAt_c1 (z x0 x1:List PV) (xs:List (List PV)):epAt z (x0 :: x1 :: xs) 1=x1:=rfl
attribute [go_sem] epAt_c1
theorem epAt_c2 (z x0 x1 x2:List PV) (xs:List (List PV)):epAt z (x0 :: x1 :: x2 :: xs) 2=x2:=rfl
attribute [go_sem] epAt_c2
theorem epAt_c3 (z x0 x1 x2 x3:List PV) (xs:List (List PV)):epAt z (x0 :: x1 :: x2 :: x3 :: xs) 3=x3:=rfl
attribute [go_sem] epAt_c3
theorem bs_ix_k0 (a:Str):((((bs a).data.getD 0 0).toNat:Nat):Int)=sx a 0:=bs_ix a 0
attribute [go_sem] bs_ix_k0
theorem bs_ix_k1 (a:Str):((((bs a).data.getD 1 0).toNat:Nat):Int)=sx a 1:=bs_ix a 1
attribute [go_sem] bs_ix_k1
theorem bs_ix_k2 (a:Str):((((bs a).data.getD 2 0).toNat:Nat):Int)=sx a 2:=bs_ix a 2
attribute [go_sem] bs_ix_k2
theorem bs_ix_k3 (a:Str):((((bs a).data.getD 3 0).toNat:Nat):Int)=sx a 3:=bs_ix a 3
attribute [go_sem] bs_ix_k3
attribute [go_sem] encL_encS enc_api_File apAt_enc_api_File_0_4 apAt_enc_api_File_0_4_k0 apAt_enc_api_File_0_4_k1 apAt_enc_api_File_0_4_k2 apAt_enc_api_File_0_4_k3 apAt_encB_0_1 apAt_encB_0_1_k0 apAt_encB_0_1_k1 apAt_encB_0_1_k2 apAt_encB_0_1_k3 epAt_encI epAt_encI_k0 epAt_encI_k1 epAt_encI_k2 epAt_encI_k3 epAt_encL_encS epAt_encL_encS_k0 epAt_encL_encS_k1 epAt_encL_encS_k2 epAt_encL_encS_k3 epAt_encS epAt_encS_k0 epAt_encS_k1 epAt_encS_k2 epAt_encS_k3 epLit_encS_4 setC_encB_0_1 setC_encB_0_1_k0 setC_encB_0_1_k1 setC_encB_0_1_k2 setC_encB_0_1_k3
end Go.LS
