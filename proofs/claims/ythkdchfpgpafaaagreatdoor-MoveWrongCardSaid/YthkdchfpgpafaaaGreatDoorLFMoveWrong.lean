/- Closed facts of what MoveWrong reaches. -/
import Derived.Test.YthkdchfpgpafaaaGreatDoorLFTa
import Derived.Test.YthkdchfpgpafaaaGreatDoorLFTb
import Derived.Test.YthkdchfpgpafaaaGreatDoorLFTc
import Derived.Test.YthkdchfpgpafaaaGreatDoorLFTd
