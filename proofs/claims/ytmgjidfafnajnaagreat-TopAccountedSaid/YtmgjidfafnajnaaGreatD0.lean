/-
  Plain types of the program and how their values lie in cells. No condition: definitions, printed by dec.py.
-/
import Derived.Test.YtmgjidfafnajnaaGreatLX
namespace Go.LS
set_option linter.all false
set_option linter.unusedSimpArgs false
set_option linter.unusedVariables false
set_option maxRecDepth 20000
structure zk9 where
 L:List Int
 At:Int
deriving DecidableEq
instance : Inhabited zk9 := ⟨⟨default, default⟩⟩
structure zY9 where
 Close:Int
 Late:Int
deriving DecidableEq
instance : Inhabited zY9 := ⟨⟨default, default⟩⟩
structure zB9 where
 Time:Int
 Source:Int
 Seq:Int
deriving DecidableEq
instance : Inhabited zB9 := ⟨⟨default, default, default⟩⟩
structure zX9 where
 Candidate:Int
 Centre:Int
 Paper:Int
deriving DecidableEq
instance : Inhabited zX9 := ⟨⟨default, default, default⟩⟩
structure zg9 where
 Stamp:zB9
 Kind:Int
 Entry:zX9
 To:Int
deriving DecidableEq
instance : Inhabited zg9 := ⟨⟨default, default, default, default⟩⟩
def zc9 (x:zg9):List PV:=[pi x.Stamp.Time,pi x.Stamp.Source,pi x.Stamp.Seq,pi x.Kind,pi x.Entry.Candidate,pi x.Entry.Centre,pi x.Entry.Paper,pi x.To]
structure ze9 where
 Stamp:zB9
 Kind:Int
 Candidate:Int
 Minutes:Int
deriving DecidableEq
instance : Inhabited ze9 := ⟨⟨default, default, default, default⟩⟩
def zb9 (x:ze9):List PV:=[pi x.Stamp.Time,pi x.Stamp.Source,pi x.Stamp.Seq,pi x.Kind,pi x.Candidate,pi x.Minutes]
structure zh9 where
 Stamp:zB9
 Kind:Int
 Bag:Int
 Seal:Int
 From:Int
 To:Int
 Candidates:List Int
deriving DecidableEq
instance : Inhabited zh9 := ⟨⟨default, default, default, default, default, default, default⟩⟩
def za9 (x:zh9):List PV:=[pi x.Stamp.Time,pi x.Stamp.Source,pi x.Stamp.Seq,pi x.Kind,pi x.Bag,pi x.Seal,pi x.From,pi x.To,.sl 1 (List.map encI x.Candidates)]
structure zf9 where
 Entry:zX9
 Late:Bool
deriving DecidableEq
instance : Inhabited zf9 := ⟨⟨default, default⟩⟩
structure api_Identity where
 Source:Int
 Seq:Int
deriving DecidableEq
instance : Inhabited api_Identity := ⟨⟨default, default⟩⟩
structure zu9 where
 Event:api_Identity
 Code:Int
deriving DecidableEq
instance : Inhabited zu9 := ⟨⟨default, default⟩⟩
def zd9 (x:zf9):List PV:=[pi x.Entry.Candidate,pi x.Entry.Centre,pi x.Entry.Paper,.val (.bool x.Late)]
def zn9 (x:zu9):List PV:=[pi x.Event.Source,pi x.Event.Seq,pi x.Code]
structure stamp_group where
 first:Int
 disputed:Bool
deriving DecidableEq
instance : Inhabited stamp_group := ⟨⟨default, default⟩⟩
structure zD9 where
 Candidate:Int
 State:Int
 Late:Int
 Left:Int
 Incidents:List Int
deriving DecidableEq
instance : Inhabited zD9 := ⟨⟨default, default, default, default, default⟩⟩
def zj9 (x:zD9):List PV:=[pi x.Candidate,pi x.State,pi x.Late,pi x.Left,.sl 1 (List.map encI x.Incidents)]
structure api_Bag where
 Bag:Int
 Holder:Int
 Open:Bool
 Seals:List Int
 Packed:List Int
 Found:List Int
deriving DecidableEq
instance : Inhabited api_Bag := ⟨⟨default, default, default, default, default, default⟩⟩
def zo9 (x:api_Bag):List PV:=[pi x.Bag,pi x.Holder,.val (.bool x.Open),.sl 1 (List.map encI x.Seals),.sl 1 (List.map encI x.Packed),.sl 1 (List.map encI x.Found)]
theorem apAt_encI_0_1 (l:List Int) (n:Int):apAt [pi (0:Int)] (List.map encI l) n.toNat 0 1=[pi (ix l n)]:=by
 unfold apAt ix
 by_cases h:n.toNat<l.length
 ·simp [h,List.getD,encI]
 ·simp [h,List.getD]; first | done | rfl | (repeat' apply And.intro) <;> rfl
theorem apAt_enc_api_EntryEvent_0_8 (l:List zg9) (n:Int):apAt [pi (0:Int),pi (0:Int),pi (0:Int),pi (0:Int),pi (0:Int),pi (0:Int),pi (0:Int),pi (0:Int)] (List.map zc9 l) n.toNat 0 8=[pi (((ix l n).Stamp).Time),pi (((ix l n).Stamp).Source),pi (((ix l n).Stamp).Seq),pi ((ix l n).Kind),pi (((ix l n).Entry).Candidate),pi (((ix l n).Entry).Centre),pi (((ix l n).Entry).Paper),pi ((ix l n).To)]:=by
 unfold apAt ix
 by_cases h:n.toNat<l.length
 ·simp [h,List.getD,zc9]
 ·simp [h,List.getD]; first | done | rfl | (repeat' apply And.intro) <;> rfl
theorem apAt_enc_api_RegisterEvent_0_6 (l:List ze9) (n:Int):apAt [pi (0:Int),pi (0:Int),pi (0:Int),pi (0:Int),pi (0:Int),pi (0:Int)] (List.map zb9 l) n.toNat 0 6=[pi (((ix l n).Stamp).Time),pi (((ix l n).Stamp).Source),pi (((ix l n).Stamp).Seq),pi ((ix l n).Kind),pi ((ix l n).Candidate),pi ((ix l n).Minutes)]:=by
 unfold apAt ix
 by_cases h:n.toNat<l.length
 ·simp [h,List.getD,zb9]
 ·simp [h,List.getD]; first | done | rfl | (repeat' apply And.intro) <;> rfl
theorem apAt_enc_api_BagEvent_0_9 (l:List zh9) (n:Int):apAt [pi (0:Int),pi (0:Int),pi (0:Int),pi (0:Int),pi (0:Int),pi (0:Int),pi (0:Int),pi (0:Int),.sl 1 []] (List.map za9 l) n.toNat 0 9=[pi (((ix l n).Stamp).Time),pi (((ix l n).Stamp).Source),pi (((ix l n).Stamp).Seq),pi ((ix l n).Kind),pi ((ix l n).Bag),pi ((ix l n).Seal),pi ((ix l n).From),pi ((ix l n).To),.sl 1 (List.map encI ((ix l n).Candidates))]:=by
 unfold apAt ix
 by_cases h:n.toNat<l.length
 ·simp [h,List.getD,za9]
 ·simp [h,List.getD]; first | done | rfl | (repeat' apply And.intro) <;> rfl
theorem epAt_encI (l:List Int) (n:Int):epAt [pi (0:Int)] (List.map encI l) n.toNat=[pi (ix l n)]:=by
 unfold epAt ix
 by_cases h:n.toNat<l.length
 ·simp [h,List.getD,encI]
 ·simp [h,List.getD]; first | done | exact⟨rfl,rfl⟩ | rfl | (repeat' apply And.intro) <;> rfl
theorem epAt_enc_api_EntryEvent (l:List zg9) (n:Int):epAt [pi (0:Int),pi (0:Int),pi (0:Int),pi (0:Int),pi (0:Int),pi (0:Int),pi (0:Int),pi (0:Int)] (List.map zc9 l) n.toNat=[pi (((ix l n).Stamp).Time),pi (((ix l n).Stamp).Source),pi (((ix l n).Stamp).Seq),pi ((ix l n).Kind),pi (((ix l n).Entry).Candidate),pi (((ix l n).Entry).Centre),pi (((ix l n).Entry).Paper),pi ((ix l n).To)]:=by
 unfold epAt ix
 by_cases h:n.toNat<l.length
 ·simp [h,List.getD,zc9]
 ·simp [h,List.getD]; first | done | exact⟨rfl,rfl⟩ | rfl | (repeat' apply And.intro) <;> rfl
theorem epAt_enc_api_RegisterEvent (l:List ze9) (n:Int):epAt [pi (0:Int),pi (0:Int),pi (0:Int),pi (0:Int),pi (0:Int),pi (0:Int)] (List.map zb9 l) n.toNat=[pi (((ix l n).Stamp).Time),pi (((ix l n).Stamp).Source),pi (((ix l n).Stamp).Seq),pi ((ix l n).Kind),pi ((ix l n).Candidate),pi ((ix l n).Minutes)]:=by
 unfold epAt ix
 by_cases h:n.toNat<l.length
 ·simp [h,List.getD,zb9]
 ·simp [h,List.getD]; first | done | exact⟨rfl,rfl⟩ | rfl | (repeat' apply And.intro) <;> rfl
theorem epAt_enc_api_BagEvent (l:List zh9) (n:Int):epAt [pi (0:Int),pi (0:Int),pi (0:Int),pi (0:Int),pi (0:Int),pi (0:Int),pi (0:Int),pi (0:Int),.sl 1 []] (List.map za9 l) n.toNat=[pi (((ix l n).Stamp).Time),pi (((ix l n).Stamp).Source),pi (((ix l n).Stamp).Seq),pi ((ix l n).Kind),pi ((ix l n).Bag),pi ((ix l n).Seal),pi ((ix l n).From),pi ((ix l n).To),.sl 1 (List.map encI ((ix l n).Candidates))]:=by
 unfold epAt ix
 by_cases h:n.toNat<l.length
 ·simp [h,List.getD,za9]
 ·simp [h,List.getD]; first | done | exact⟨rfl,rfl⟩ | rfl | (repeat' apply And.intro) <;> rfl
theorem epAt_enc_api_Attendance (l:List zD9) (n:Int):epAt [pi (0:Int),pi (0:Int),pi (0:Int),pi (0:Int),.sl 1 []] (List.map zj9 l) n.toNat=[pi ((ix l n).Candidate),pi ((ix l n).State),pi ((ix l n).Late),pi ((ix l n).Left),.sl 1 (List.map encI ((ix l n).Incidents))]:=by
 unfold epAt ix
 by_cases h:n.toNat<l.length
 ·simp [h,List.getD,zj9]
 ·simp [h,List.getD]; first | done | exact⟨rfl,rfl⟩ | rfl | (repeat' apply And.intro) <;> rfl
theorem epAt_enc_api_Enrolment (l:List zf9) (n:Int):epAt [pi (0:Int),pi (0:Int),pi (0:Int),.val (.bool false)] (List.map zd9 l) n.toNat=[pi (((ix l n).Entry).Candidate),pi (((ix l n).Entry).Centre),pi (((ix l n).Entry).Paper),.val (.bool ((ix l n).Late))]:=by
 unfold epAt ix
 by_cases h:n.toNat<l.length
 ·simp [h,List.getD,zd9]
 ·simp [h,List.getD]; first | done | exact⟨rfl,rfl⟩ | rfl | (repeat' apply And.intro) <;> rfl
theorem epAt_enc_api_Bag (l:List api_Bag) (n:Int):epAt [pi (0:Int),pi (0:Int),.val (.bool false),.sl 1 [],.sl 1 [],.sl 1 []] (List.map zo9 l) n.toNat=[pi ((ix l n).Bag),pi ((ix l n).Holder),.val (.bool ((ix l n).Open)),.sl 1 (List.map encI ((ix l n).Seals)),.sl 1 (List.map encI ((ix l n).Packed)),.sl 1 (List.map encI ((ix l n).Found))]:=by
 unfold epAt ix
 by_cases h:n.toNat<l.length
 ·simp [h,List.getD,zo9]
 ·simp [h,List.getD]; first | done | exact⟨rfl,rfl⟩ | rfl | (repeat' apply And.intro) <;> rfl
theorem setC_encI_0_1 (l:List Int) (n:Int) (a0:Int):setC (List.map encI l) n.toNat 0 [pi a0]=List.map encI (setI l n a0):=by
 unfold setC setI; (try unfold ix)
 by_cases h:n.toNat<l.length
 ·simp [h,List.getD,splice,List.map_set,encI]
 ·rw [List.set_eq_of_length_le (by simp; omega),List.set_eq_of_length_le (by omega)]
theorem setC_enc_api_EntryEvent_0_8 (l:List zg9) (n:Int) (a0:Int) (a1:Int) (a2:Int) (a3:Int) (a4:Int) (a5:Int) (a6:Int) (a7:Int):setC (List.map zc9 l) n.toNat 0 [pi a0,pi a1,pi a2,pi a3,pi a4,pi a5,pi a6,pi a7]=List.map zc9 (setI l n (zg9.mk (zB9.mk a0 a1 a2) a3 (zX9.mk a4 a5 a6) a7)):=by
 unfold setC setI; (try unfold ix)
 by_cases h:n.toNat<l.length
 ·simp [h,List.getD,splice,List.map_set,zc9]
 ·rw [List.set_eq_of_length_le (by simp; omega),List.set_eq_of_length_le (by omega)]
theorem setC_enc_api_RegisterEvent_0_6 (l:List ze9) (n:Int) (a0:Int) (a1:Int) (a2:Int) (a3:Int) (a4:Int) (a5:Int):setC (List.map zb9 l) n.toNat 0 [pi a0,pi a1,pi a2,pi a3,pi a4,pi a5]=List.map zb9 (setI l n (ze9.mk (zB9.mk a0 a1 a2) a3 a4 a5)):=by
 unfold setC setI; (try unfold ix)
 by_cases h:n.toNat<l.length
 ·simp [h,List.getD,splice,List.map_set,zb9]
 ·rw [List.set_eq_of_length_le (by simp; omega),List.set_eq_of_length_le (by omega)]
theorem setC_enc_api_BagEvent_0_9 (l:List zh9) (n:Int) (a0:Int) (a1:Int) (a2:Int) (a3:Int) (a4:Int) (a5:Int) (a6:Int) (a7:Int) (a8:List Int):setC (List.map za9 l) n.toNat 0 [pi a0,pi a1,pi a2,pi a3,pi a4,pi a5,pi a6,pi a7,.sl 1 (List.map encI a8)]=List.map za9 (setI l n (zh9.mk (zB9.mk a0 a1 a2) a3 a4 a5 a6 a7 a8)):=by
 unfold setC setI; (try unfold ix)
 by_cases h:n.toNat<l.length
 ·simp [h,List.getD,splice,List.map_set,za9]
 ·rw [List.set_eq_of_length_le (by simp; omega),List.set_eq_of_length_le (by omega)]
theorem setC_enc_api_BagEvent_8_1 (l:List zh9) (n:Int) (a8:List Int):setC (List.map za9 l) n.toNat 8 [.sl 1 (List.map encI a8)]=List.map za9 (setI l n (zh9.mk ((ix l n).Stamp) ((ix l n).Kind) ((ix l n).Bag) ((ix l n).Seal) ((ix l n).From) ((ix l n).To) a8)):=by
 unfold setC setI; (try unfold ix)
 by_cases h:n.toNat<l.length
 ·simp [h,List.getD,splice,List.map_set,za9]
 ·rw [List.set_eq_of_length_le (by simp; omega),List.set_eq_of_length_le (by omega)]
theorem epAt_c0 (z x0:List PV) (xs:List (List PV)):epAt z (x0 :: xs) 0=x0:=rfl
attribute [go_sem] epAt_c0
theorem epAt_c1 (z x0 x1:List PV) (xs:List (List PV)):epAt z (x0 :: x1 :: xs) 1=x1:=rfl
attribute [go_sem] epAt_c1
theorem epAt_c2 (z x0 x1 x2:List PV) (xs:List (List PV)):epAt z (x0 :: x1 :: x2 :: xs) 2=x2:=rfl
attribute [go_sem] epAt_c2
theorem epAt_c3 (z x0 x1 x2 x3:List PV) (xs:List (List PV)):epAt z (x0 :: x1 :: x2 :: x3 :: xs) 3=x3:=rfl
attribute [go_sem] epAt_c3
attribute [go_sem] zc9 zb9 za9 zd9 zn9 zj9 zo9 apAt_encI_0_1 apAt_enc_api_EntryEvent_0_8 apAt_enc_api_RegisterEvent_0_6 apAt_enc_api_BagEvent_0_9 epAt_encI epAt_enc_api_EntryEvent epAt_enc_api_RegisterEvent epAt_enc_api_BagEvent epAt_enc_api_Attendance epAt_enc_api_Enrolment epAt_enc_api_Bag setC_encI_0_1 setC_enc_api_EntryEvent_0_8 setC_enc_api_RegisterEvent_0_6 setC_enc_api_BagEvent_0_9 setC_enc_api_BagEvent_8_1
end Go.LS
