/- Plain functions, read off the program by program (gen.py): no program in sight. -/
import Derived.Test.YtcfkiahbipjbmaaGreatDoorPl
import Derived.Test.YtcfkiahbipjbmaaGreatDoorHs
import Derived.Test.YtcfkiahbipjbmaaGreatDoorPa
import Derived.Test.YtcfkiahbipjbmaaGreatDoorPb
import Derived.Test.YtcfkiahbipjbmaaGreatDoorPc
import Derived.Test.YtcfkiahbipjbmaaGreatDoorPd
import Derived.Test.YtcfkiahbipjbmaaGreatDoorPe
import Derived.Test.YtcfkiahbipjbmaaGreatDoorPg
import Derived.Test.YtcfkiahbipjbmaaGreatDoorPo
set_option linter.unusedVariables false
namespace Go.C
open Go.V

noncomputable def lawSets_j1 (b2 : (List Str)) (a2 : (List Str)) : Option (Bool) :=
  (union a2 b2).bind fun v3 =>
    (refUnion a2 b2).bind fun v4 =>
      (sameStrings v3 v4).bind fun v5 =>
        (if (!(!v5)) = true then subsetP a2 b2 else some default).bind fun v6 =>
          (if (!(!v5)) = true then refSubset a2 b2 else some default).bind fun v7 =>
            (if (!(bif (!v5) then true else (!(v6 == v7)))) = true then commonP a2 b2 else some default).bind fun v8 =>
              (if (!(bif (!v5) then true else (!(v6 == v7)))) = true then refCommon a2 b2 else some default).bind fun v9 =>
                (if (!(bif (bif (!v5) then true else (!(v6 == v7))) then true else (v8 != v9))) = true then validWords a2 else some default).bind fun v10 =>
                  (if (!(bif (bif (!v5) then true else (!(v6 == v7))) then true else (v8 != v9))) = true then refWords a2 else some default).bind fun v11 =>
                    if (bif (bif (bif (!v5) then true else (!(v6 == v7))) then true else (v8 != v9)) then true else (!(v10 == v11))) = true then
                      some false
                    else
                      (subsetP a2 v3).bind fun v12 =>
                        (if v12 = true then subsetP b2 v3 else some default).bind fun v13 =>
                          (if (bif v12 then v13 else false) = true then commonP a2 b2 else some default).bind fun v14 =>
                            (if (bif v12 then v13 else false) = true then commonP b2 a2 else some default).bind fun v15 =>
                              (if (bif (bif v12 then v13 else false) then (v14 == v15) else false) = true then commonP a2 b2 else some default).bind fun v16 =>
                                (if (bif (bif v12 then v13 else false) then (v14 == v15) else false) = true then refUnion a2 [] else some default).bind fun v17 =>
                                  (if (bif (bif v12 then v13 else false) then (v14 == v15) else false) = true then refUnion b2 [] else some default).bind fun v18 =>
                                    (if (bif (bif (bif v12 then v13 else false) then (v14 == v15) else false) then ((IntKind.i64.wrap ((v3.length : Int) + v16)) == (IntKind.i64.wrap ((v17.length : Int) + (v18.length : Int)))) else false) = true then awake08  else some default).bind fun v19 =>
                                      some (bif (bif (bif (bif v12 then v13 else false) then (v14 == v15) else false) then ((IntKind.i64.wrap ((v3.length : Int) + v16)) == (IntKind.i64.wrap ((v17.length : Int) + (v18.length : Int)))) else false) then v19 else false)
noncomputable def lawSets (a : (List Str)) (b : (List Str)) (l : (List Int)) (m1 : (List Int)) (raw : Bool) : Option (Bool) :=
  (few a).bind fun v =>
    (few b).bind fun v2 =>
      if (!raw) = true then
        (madeGood l).bind fun v20 =>
          (madeGood m1).bind fun v21 =>
            lawSets_j1 v21.Words v20.Words
      else
        lawSets_j1 v2 v

end Go.C
